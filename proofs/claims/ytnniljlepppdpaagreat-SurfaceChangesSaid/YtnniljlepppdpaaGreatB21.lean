/- rational.Add, Sub, Mul, Quo, Cmp, Min, Max, Int. -/
import Derived.Test.YtnniljlepppdpaaGreatB20
set_option linter.unusedVariables false
namespace Go.Am.B
open Go Go.Am.N AV
theorem YE:aT P GU Fp (ay Fp):=aU Proofs.Tryz.func123 ag ag ag
theorem akn:aT P BR C0 (ay C0):=aU Proofs.Tryz.func122 ag ag ag
theorem ahk:aT P LW Hj (ay Hj):=aU Proofs.Tryz.func180 ag ag ag
theorem amY:aT P Ir CP (ay CP):=aU Proofs.Tryz.func181 ag ag ag
theorem amP:aT P vk Ga (ay Ga):=aU Proofs.Tryz.func203 ag ag ag
def S5:Spec:=bY fun l=>match l with
 |[.rat q n,.rat r m,.bool s]=>some (aJ (.rat (q+sQ s r.num.natAbs r.den) (n+m+1)) [n<2^42,m<2^42])
 |_=>none
def Qg:Spec:=bY fun l=>match l with
 |[.rat q n,.rat r m]=>some (aJ (.int .i64 (eV q r)) [n<2^42,m<2^42])
 |_=>none
abbrev Iw:FuncId×Spec:=(Cl,QU)
def GA:bf:=(DT,S5)::(lC,Qg)::Iw::(G4,Sc)::(AU,Jr)::(zG,Jf)::[]
theorem agT {q r:Rat} {n m:Nat}:bU T GA [] 60 Fp (ay Fp) ⟨aP 0 [.rat q n,.rat r m],[],0⟩=
  let c1:Prop:=0<1;some (ah.aj [c1,c1,c1,n<2^42,m<2^42,c1] (ah.aj [c1] (ah.leaf ax.ret [rat (q+sQ (decide (r<0)) r.num.natAbs r.den) (n+m+1)]))):=ag
theorem ahj {q r:Rat} {n m:Nat}:bU T GA [] 60 C0 (ay C0) ⟨aP 0 [.rat q n,.rat r m],[],0⟩=
  let c1:Prop:=0<1;some (ah.aj [c1,c1,c1,n<2^42,m<2^42,c1] (ah.aj [c1] (ah.leaf ax.ret [rat (q+sQ (!decide (r<0)) r.num.natAbs r.den) (n+m+1)]))):=ag
theorem alM {q r:Rat} {n m:Nat}:bU T GA [8] 60 Hj (ay Hj) ⟨aP 0 [.rat q n,.rat r m],[],0⟩=
  let c1:Prop:=0<1;some (ah.aj [c1,c1,m<2^42,n<2^42] (ah.fork (decide (eV r q<0)) (ah.aj [c1,c1] (ah.aj [c1,m<2^44,c1] (ah.aj [c1] (ah.leaf ax.ret [rat r m])))) (ah.aj [c1,n<2^44,c1] (ah.aj [c1] (ah.leaf ax.ret [rat q n]))))):=ag
theorem aaM {q r:Rat} {n m:Nat}:bU T GA [8] 60 CP (ay CP) ⟨aP 0 [.rat q n,.rat r m],[],0⟩=
  let c1:Prop:=0<1;some (ah.aj [c1,c1,m<2^42,n<2^42] (ah.fork (decide (eV r q>0)) (ah.aj [c1,c1] (ah.aj [c1,m<2^44,c1] (ah.aj [c1] (ah.leaf ax.ret [rat r m])))) (ah.aj [c1,n<2^44,c1] (ah.aj [c1] (ah.leaf ax.ret [rat q n]))))):=ag
theorem aah {n:Int}:bU T GA [] 60 Ga (ay Ga) ⟨aP 0 [.int .i64 n],[],0⟩=
  let c1:Rat:=sQ (decide (n<0)) n.natAbs 1;some (ah.aj [-(2:Int)^63<=n,n<2^63,nl n.natAbs<2^40,nl 1<2^40,(0:Nat)<1] (ah.aj [(0:Nat)<1] (ah.leaf ax.ret [rat c1 (cZ c1)]))):=ag
theorem abe {q r:Rat} {n m:Nat}:bU T GQ [20,23,34,47,49,56,63,76] 60 GH (ay GH) ⟨aP 0 [.rat q n,.rat r m],[],0⟩=
  let c14:ah (List AV):=ah.leaf ax.ret [int .i64 (0:Int)];let c13:Nat:=q.num.natAbs;let c12:Nat:=r.num.natAbs;let c11:ah (List AV):=ah.leaf ax.ret [int .i64 (1:Int)];let c10:Bool:=decide (q<0);let c9:ah (List AV):=ah.leaf ax.ret [int .i64 (-1:Int)];let c8:Nat:=if r.den=1 then 0 else r.den;let c7:Nat:=if q.den=1 then 0 else q.den;let c6:Nat:=2^40;let c5:Prop:=0<1;let c15:Int:=dh (c13*r.den) (c12*q.den);let c4:Int:=IntKind.u64.wrap ((↑(if eG q=true then c13 else 0):Int)*(↑(if eG r=true then r.den else 0):Int));let c3:Int:=IntKind.u64.wrap ((↑(if eG r=true then c12 else 0):Int)*(↑(if eG q=true then q.den else 0):Int));let c2:ah (List AV):=ah.aj [c5,c5,nl c13<c6,nl r.den<c6,c5,c5,nl c12<c6,nl q.den<c6,nl (c13*r.den)<c6,nl (c12*q.den)<c6] (ah.aj [c5] (ah.fork c10 (ah.leaf ax.ret [int .i64 (IntKind.i64.wrap ((0:Int)-c15))]) (ah.leaf ax.ret [int .i64 c15])));let c1:ah (List AV):=ah.fork (decide (c4<c3)) (ah.aj [c5] (ah.fork c10 c11 c9)) (ah.fork (decide (c4>c3)) (ah.aj [c5] (ah.fork c10 c9 c11)) (ah.aj [c5] (ah.fork c10 c14 c14)));some (ah.aj [c5,n<2^44,c5,m<2^44] (ah.fork (fD q !=fD r) (ah.fork (decide (fD q<fD r)) c9 c11) (ah.aj [c5] (ah.aj [c5,c5,nl c7<c6,nl c8<c6] (ah.fork (decide (c7=c8)) (ah.aj [c5,c5,nl c13<c6,nl c12<c6] (ah.aj [c5] (ah.fork c10 (ah.leaf ax.ret [int .i64 (IntKind.i64.wrap ((0:Int)-dh c13 c12))]) (ah.leaf ax.ret [int .i64 (dh c13 c12)])))) (ah.aj [c5] (ah.fork (eG q) (ah.aj [eG q=true] (ah.fork (bif true then eG r else false) c1 c2)) (ah.aj [eG q=false] (ah.fork false c1 c2))))))))):=ag
theorem amM:aW P S5 DT:=by
 refine cJ fun K args r hk hs _=>?_
 split at hs
 ·simp only[az]at hs
  subst hs
  exact fun need=>agc need.1 need.2 K [] trivial
 ·simp at hs
theorem Fi {q r:Rat} (h:fD q≠fD r):eV q r=if fD q<fD r then-1 else 1:=by
 unfold fD eV at*
 grind
theorem ahc {a b:Nat}:-dh a b=dh b a:=by unfold dh;split<;>split<;>omega
theorem N6 {a b k:Nat} (hk:0<k):dh (a*k) (b*k)=dh a b:=by
 unfold dh
 simp only[Nat.mul_lt_mul_right hk]
theorem C2 {a b:Nat}:IntKind.i64.wrap (0-dh a b)=-dh a b:=by
 have:dh a b=-1\/dh a b=0\/dh a b=1:=by unfold dh;split;exact .inl rfl;split;exact .inr (.inr rfl);exact .inr (.inl rfl)
 rcases this with h|h|h<;>rw[h]<;>rfl
theorem pK {q r:Rat} (h:fD q=fD r):eV q r=if q<0 then-dh (q.num.natAbs*r.den) (r.num.natAbs*q.den)else dh (q.num.natAbs*r.den) (r.num.natAbs*q.den):=by
 have h1:q<0↔r<0:=by unfold fD at h;grind
 have e1:∀{a b:Nat},(-(a:Int))*(b:Int)=-((a*b:Nat):Int):=fun {a b}=>by simp[Int.neg_mul]
 have e2:∀{a b:Nat},(a:Int)*(b:Int)=((a*b:Nat):Int):=fun {a b}=>by simp
 unfold eV
 by_cases hq:q<0
 ·have hr:=h1.1 hq
  have q1:q.num=-(q.num.natAbs:Int):=by have:=js.1 hq;omega
  have r1:r.num=-(r.num.natAbs:Int):=by have:=js.1 hr;omega
  have l1:q<r↔r.num.natAbs*q.den<q.num.natAbs*r.den:=by
   rw[Rat.lt_iff]
   conv=>lhs;rw[q1,r1,e1,e1]
   omega
  have l2:r<q↔q.num.natAbs*r.den<r.num.natAbs*q.den:=by
   rw[Rat.lt_iff]
   conv=>lhs;rw[q1,r1,e1,e1]
   omega
  rw[if_pos hq,ahc]
  unfold dh
  simp only[l1,l2]
 ·have hr:¬r<0:=fun h=>hq (h1.2 h)
  have q1:q.num=(q.num.natAbs:Int):=by have:¬q.num<0:=fun h=>hq (js.2 h);omega
  have r1:r.num=(r.num.natAbs:Int):=by have:¬r.num<0:=fun h=>hr (js.2 h);omega
  have l1:q<r↔q.num.natAbs*r.den<r.num.natAbs*q.den:=by
   rw[Rat.lt_iff]
   conv=>lhs;rw[q1,r1,e2,e2]
   omega
  have l2:r<q↔r.num.natAbs*q.den<q.num.natAbs*r.den:=by
   rw[Rat.lt_iff]
   conv=>lhs;rw[q1,r1,e2,e2]
   omega
  rw[if_neg hq]
  unfold dh
  simp only[l1,l2]
theorem Iy {q r:Rat} {n m:Nat} (hn:n<2^42) (hm':m<2^42) (K:Nat) (pre:aE):aQ P lC K [.rat q n,.rat r m] pre (aJ (.int .i64 (eV q r)) []):=by
 refine jV fun⟨hq,hr,_⟩=>?_
 have hq:Sz q n:=hq
 have hr:Sz r m:=hr
 obtain⟨a1,a2,a3⟩:=Sz.jR hq aa
 obtain⟨b1,b2,b3⟩:=Sz.jR hr aa
 have d1:=q.den_nz
 have d2:=r.den_nz
 have m1:nl (q.num.natAbs*r.den)<2^40:=jZ (n:=n+m) (by rw[Nat.pow_add];exact Nat.mul_lt_mul'' hq.1 hr.2) aa
 have m2:nl (r.num.natAbs*q.den)<2^40:=jZ (n:=m+n) (by rw[Nat.pow_add];exact Nat.mul_lt_mul'' hr.1 hq.2) aa
 refine bZ hT mN hm aeS rfl aX rfl 60 abe (fun _=>?_) K pre
 simp only[ah.all,aA,bne_iff_ne,ne_eq,bne_eq_false_iff_eq]
 refine⟨⟨aa,aa,aa,aa⟩,fun hs=>⟨fun hl=>bK ?_,fun hl=>bK ?_⟩,fun hs=>⟨aa,⟨aa,aa,a3,b3⟩,fun hd=>⟨⟨aa,aa,a1,b1⟩,aa,fun hc=>bK ?_,fun hc=>bK ?_⟩,fun hd=>⟨aa,fun hp=>⟨hp,fun hp2=>?_,fun hp2=>⟨⟨aa,aa,a1,b2,aa,aa,b1,a2,m1,m2⟩,aa,fun hc=>bK ?_,fun hc=>bK ?_⟩⟩,fun hp=>⟨hp,fun h=>by simp at h,fun _=>⟨⟨aa,aa,a1,b2,aa,aa,b1,a2,m1,m2⟩,aa,fun hc=>bK ?_,fun hc=>bK ?_⟩⟩⟩⟩⟩
 ·rw[Fi hs,if_pos (of_decide_eq_true hl)]
 ·rw[Fi hs,if_neg (of_decide_eq_false hl)]
 ·have hd:=of_decide_eq_true hd
  have e:q.den=r.den:=by split at hd<;>split at hd<;>omega
  rw[pK hs,if_pos (of_decide_eq_true hc),e,N6 aa,C2]
 ·have hd:=of_decide_eq_true hd
  have e:q.den=r.den:=by split at hd<;>split at hd<;>omega
  rw[pK hs,if_neg (of_decide_eq_false hc),e,N6 aa]
 ·have hp2:=jH hp2
  obtain⟨q1,q2⟩:=qv hp
  obtain⟨r1,r2⟩:=qv hp2
  rw[if_pos hp,if_pos hp2,if_pos hp2,if_pos hp,(pO q1 r2).1,(pO r1 q2).1]
  have hcs:=pK hs
  generalize q.num.natAbs*r.den=X at*
  generalize r.num.natAbs*q.den=Y at*
  unfold dh at hcs
  refine⟨fun h1=>⟨aa,fun hc=>bK ?_,fun hc=>bK ?_⟩,fun h1=>⟨fun h2=>⟨aa,fun hc=>bK ?_,fun hc=>bK ?_⟩,fun h2=>⟨aa,fun hc=>bK ?_,fun hc=>bK ?_⟩⟩⟩
  all_goals rw[hcs]
  ·rw[if_pos (of_decide_eq_true hc),if_pos (by have:=of_decide_eq_true h1;omega)];rfl
  ·rw[if_neg (of_decide_eq_false hc),if_pos (by have:=of_decide_eq_true h1;omega)]
  ·rw[if_pos (of_decide_eq_true hc),if_neg (by have:=of_decide_eq_false h1;omega),if_pos (by have:=of_decide_eq_true h2;omega)]
  ·rw[if_neg (of_decide_eq_false hc),if_neg (by have:=of_decide_eq_false h1;omega),if_pos (by have:=of_decide_eq_true h2;omega)]
  ·rw[if_pos (of_decide_eq_true hc),if_neg (by have:=of_decide_eq_false h1;omega),if_neg (by have:=of_decide_eq_false h2;omega)];rfl
  ·rw[if_neg (of_decide_eq_false hc),if_neg (by have:=of_decide_eq_false h1;omega),if_neg (by have:=of_decide_eq_false h2;omega)]
 ·rw[pK hs,if_pos (of_decide_eq_true hc),C2]
 ·rw[pK hs,if_neg (of_decide_eq_false hc)]
 ·rw[pK hs,if_pos (of_decide_eq_true hc),C2]
 ·rw[pK hs,if_neg (of_decide_eq_false hc)]
theorem abo:aW P Qg lC:=by
 refine cJ fun K args r hk hs _=>?_
 split at hs
 ·simp only[az]at hs
  subst hs
  exact fun need=>Iy need.1 need.2 K [] trivial
 ·simp at hs
theorem an2:aW P Iw.2 Iw.1:=aff
theorem wU:bu P GA:=aI amM (aI abo (aI an2 (aI aaj (aI Vc (aI Tz bz)))))
section ops
variable {q r:Rat} {n m:Nat}
theorem RF (hn:n<2^42) (hm':m<2^42) (K:Nat):aQ P GU K [.rat q n,.rat r m] [] (aJ (.rat (q+r) (n+m+1)) []):=by
 refine bZ hT wU hm YE rfl aX rfl 60 agT (fun _=>?_) K []
 simp only[ah.all,aA,lN]
 exact⟨⟨aa,aa,aa,hn,hm',aa⟩,aa,.refl _⟩
theorem akI (r:Rat):sQ (!decide (r<0)) r.num.natAbs r.den=-r:=by
 have h:=lN r
 conv=>rhs;rw[<-h]
 unfold sQ
 rw[Rat.neg_mkRat]
 congr 1
 unfold gq
 by_cases h:r<0<;>simp[h]
theorem T1 (hn:n<2^42) (hm':m<2^42) (K:Nat):aQ P BR K [.rat q n,.rat r m] [] (aJ (.rat (q-r) (n+m+1)) []):=by
 refine bZ hT wU hm akn rfl aX rfl 60 ahj (fun _=>?_) K []
 simp only[ah.all,aA,akI]
 exact⟨⟨aa,aa,aa,hn,hm',aa⟩,aa,dO (by rw[Rat.sub_eq_add_neg])⟩
def uw (q r:Rat):Rat:=if r<q then r else q
def sD (q r:Rat):Rat:=if q<r then r else q
theorem ni {q r:Rat}:eV q r<0↔q<r:=by unfold eV;grind
theorem vN {q r:Rat}:eV q r>0↔r<q:=by unfold eV;grind
theorem ZH (hn:n<2^42) (hm':m<2^42) (K:Nat):aQ P LW K [.rat q n,.rat r m] [] (aJ (.rat (uw q r) (max n m)) []):=by
 refine bZ hT wU hm ahk rfl aX rfl 60 alM (fun _=>?_) K []
 simp only[ah.all,aA,bq,bw,ni]
 refine⟨⟨aa,aa,hm',hn⟩,fun h=>⟨⟨aa,aa⟩,⟨aa,aa,aa⟩,aa,?_⟩,fun h=>⟨⟨aa,aa,aa⟩,aa,?_⟩⟩
 ·unfold uw;rw[if_pos h];exact eR (Nat.le_max_right _ _)
 ·unfold uw;rw[if_neg h];exact eR (Nat.le_max_left _ _)
theorem afp (hn:n<2^42) (hm':m<2^42) (K:Nat):aQ P Ir K [.rat q n,.rat r m] [] (aJ (.rat (sD q r) (max n m)) []):=by
 refine bZ hT wU hm amY rfl aX rfl 60 aaM (fun _=>?_) K []
 simp only[ah.all,aA,bq,bw,vN]
 refine⟨⟨aa,aa,hm',hn⟩,fun h=>⟨⟨aa,aa⟩,⟨aa,aa,aa⟩,aa,?_⟩,fun h=>⟨⟨aa,aa,aa⟩,aa,?_⟩⟩
 ·unfold sD;rw[if_pos h];exact eR (Nat.le_max_right _ _)
 ·unfold sD;rw[if_neg h];exact eR (Nat.le_max_left _ _)
theorem aiQ {n:Int}:sQ (decide (n<0)) n.natAbs 1=(n:Rat):=by
 unfold sQ
 have:gq (decide (n<0)) n.natAbs=n:=by unfold gq;by_cases h:n<0<;>simp[h]<;>omega
 rw[this,Rat.mkRat_one]
theorem Hz {n:Int}:Sz (n:Rat) (max 1 (bQ n.natAbs)):=by
 refine⟨?_,?_⟩
 ·rw[Rat.num_intCast]
  exact Nat.lt_of_lt_of_le (jg.1 aY) (Nat.pow_le_pow_right aa (Nat.le_max_right _ _))
 ·rw[Rat.den_intCast]
  exact Nat.lt_of_lt_of_le (show 1<2^1 by omega) (Nat.pow_le_pow_right aa (Nat.le_max_left _ _))
theorem JO {n:Int} (h1:-2^63<=n) (h2:n<2^63) (K:Nat):aQ P vk K [.int .i64 n] [] (aJ (.rat (n:Rat) (max 1 (bQ n.natAbs))) []):=by
 refine bZ hT wU hm amP rfl aX rfl 60 aah (fun _=>?_) K []
 simp only[ah.all,aA,aiQ]
 exact⟨⟨h1,h2,jZ (n:=64) aa aa,by decide,aa⟩,aa,dn rfl Hz⟩
theorem PF (hn:n<2^42) (hm':m<2^42) (K:Nat):aQ P Fs K [.rat q n,.rat r m] [] (aJ (.rat (q*r) (n+m)) []):=by
 refine jV fun⟨hq,hr,_⟩=>?_
 have hq:Sz q n:=hq
 have hr:Sz r m:=hr
 obtain⟨a1,a2,a3⟩:=Sz.jR hq aa
 obtain⟨b1,b2,b3⟩:=Sz.jR hr aa
 have d1:=q.den_nz
 have d2:=r.den_nz
 have m1:nl (q.num.natAbs*r.num.natAbs)<2^40:=jZ (n:=n+m) (by rw[Nat.pow_add];exact Nat.mul_lt_mul'' hq.1 hr.1) aa
 have m2:nl (q.den*r.den)<2^40:=jZ (n:=n+m) (by rw[Nat.pow_add];exact Nat.mul_lt_mul'' hq.2 hr.2) aa
 have hz:=hq.mul hr
 have hv:sQ (decide (q<0)!=decide (r<0)) (q.num.natAbs*r.num.natAbs) (q.den*r.den)=q*r:=by rw[<-Mp,lN,lN]
 have hzero:q=0\/r=0->bN (.agg [.bool false,.mag 0,.mag 0]) (.rat (q*r) (n+m)):=by
  intro h
  have e:q*r=0:=by rcases h with h|h<;>subst h<;>simp
  obtain⟨k,hk⟩:∃k,n+m=k+1:=⟨n+m-1,by have:=hq.pos;omega⟩
  rw[e,hk];exact kG
 refine bZ hT mN hm ago rfl aX rfl 60 ZJ (fun _=>?_) K []
 have hlong:(ah.aj
         [(0:Nat)<1,(0:Nat)<1,(0:Nat)<1,(0:Nat)<1,nl q.num.natAbs<2^40,nl r.num.natAbs<2^40,(0:Nat)<1,(0:Nat)<1,nl q.den<2^40,nl r.den<2^40,nl (q.num.natAbs*r.num.natAbs)<2^40,nl (q.den*r.den)<2^40,(0:Nat)<1]
         (ah.aj [(0:Nat)<1]
          (ah.leaf ax.ret
           [AV.rat (sQ (decide (q<0)!=decide (r<0)) (q.num.natAbs*r.num.natAbs) (q.den*r.den))
             (cZ (sQ (decide (q<0)!=decide (r<0)) (q.num.natAbs*r.num.natAbs) (q.den*r.den)))]))).all fun _ us=>fj us (.rat (q*r) (n+m)):=by
  simp only[ah.all,aA]
  exact⟨⟨aa,aa,aa,aa,a1,b1,aa,aa,a2,b2,m1,m2,aa⟩,aa,dn hv hz⟩
 refine⟨fun hb=>⟨⟨show 0<1 by omega,hb⟩,fun _=>⟨show 0<1 by omega,show 0<1 by omega,hzero (.inl ?_)⟩,fun h=>by simp at h⟩,fun hb=>⟨⟨show 0<1 by omega,hb,show 0<1 by omega⟩,fun hc=>⟨show 0<1 by omega,show 0<1 by omega,hzero (.inr ?_)⟩,fun hc=>⟨show 0<1 by omega,fun h1=>⟨show 0<1 by omega,fun h2=>?_,fun h2=>hlong⟩,fun h1=>hlong⟩⟩⟩
 ·have:=eq_of_beq hb
  exact oc.1 (jX.1 aa)
 ·have:=eq_of_beq (iS hc)
  exact oc.1 (jX.1 aa)
 ·obtain⟨q1,q2⟩:=qv h1
  obtain⟨r1,r2⟩:=qv h2
  obtain⟨wx,bx⟩:=pO q1 r1
  obtain⟨wd,bd⟩:=pO q2 r2
  have hd0:q.den*r.den≠0:=Nat.mul_ne_zero d1 d2
  rw[if_pos h1,if_pos h2,if_pos h1,if_pos h2,wx,wd]
  simp only[ah.all,aA,bn]
  exact⟨⟨aa,aa,aa,aa,aa⟩,aa,dn hv hz⟩
theorem Ll (q r:Rat) (hr:r≠0):sQ (decide (q<0)!=decide (r<0)) (q.num.natAbs*r.den) (q.den*r.num.natAbs)=q/r:=by
 have hn:r.num≠0:=fun h=>hr (Rat.num_eq_zero.1 h)
 have hi:r⁻¹=sQ (decide (r<0)) r.den r.num.natAbs:=by
  rw[<-lN r⁻¹]
  have e1:r⁻¹.num.natAbs=r.den:=by rw[Rat.num_inv,Int.natAbs_mul,Int.natAbs_natCast,Int.natAbs_sign_of_ne_zero hn,Nat.one_mul]
  have e2:r⁻¹.den=r.num.natAbs:=by rw[Rat.den_inv,if_neg hn]
  have e3:decide (r⁻¹<0)=decide (r<0):=by
   rw[decide_eq_decide,js,js,Rat.num_inv]
   have hd:=r.den_nz
   have hd':(0:Int)<(r.den:Int):=aa
   rcases Int.lt_trichotomy r.num 0 with h|h|h
   ·rw[Int.sign_eq_neg_one_of_neg h];omega
   ·exact absurd h hn
   ·rw[Int.sign_eq_one_of_pos h];omega
  rw[e1,e2,e3]
 rw[Rat.div_def,hi]
 conv=>rhs;rw[<-lN q]
 rw[Mp]
theorem Lh (hn:n<2^42) (hm':m<2^42) (K:Nat):aQ P zL K [.rat q n,.rat r m] [] (aJ (.tuple [.rat (q/r) (n+m),.int .i64 (if r=0 then 3 else 0)]) []):=by
 refine jV fun⟨hq,hr,_⟩=>?_
 have hq:Sz q n:=hq
 have hr:Sz r m:=hr
 obtain⟨a1,a2,a3⟩:=Sz.jR hq aa
 obtain⟨b1,b2,b3⟩:=Sz.jR hr aa
 have d1:=q.den_nz
 have d2:=r.den_nz
 have m1:nl (q.num.natAbs*r.den)<2^40:=jZ (n:=n+m) (by rw[Nat.pow_add];exact Nat.mul_lt_mul'' hq.1 hr.2) aa
 have m2:nl (q.den*r.num.natAbs)<2^40:=jZ (n:=n+m) (by rw[Nat.pow_add];exact Nat.mul_lt_mul'' hq.2 hr.1) aa
 have hz:=hq.div hr
 have sg:∀{x:Rat},fD x=0↔x=0:=by intro x;unfold fD;grind
 refine bZ hT mN hm YF rfl aX rfl 60 aiu (fun _=>?_) K []
 refine⟨⟨show 0<1 by omega,show m<2^44 by omega⟩,fun hb=>⟨show 0<1 by omega,show 0<1 by omega,?_,?_,trivial⟩,fun hb=>⟨show 0<1 by omega,?_⟩⟩
 ·have h0:r=0:=sg.1 (eq_of_beq hb)
  have e:q/r=0:=by rw[h0,Rat.div_def,Rat.inv_zero,Rat.mul_zero]
  obtain⟨k,hk⟩:∃k,n+m=k+1:=⟨n+m-1,by have:=hq.pos;omega⟩
  rw[e,hk];exact kG
 ·have h0:r=0:=sg.1 (eq_of_beq hb)
  exact bK (by rw[if_pos h0])
 have h0:r≠0:=fun h=>by
  rw[h]at hb
  simp[fD]at hb
 have hv:=Ll q r h0
 have he:bN (.int .i64 0) (.int .i64 (if r=0 then 3 else 0)):=bK (by rw[if_neg h0])
 have hlong:(ah.aj
         [(0:Nat)<1,(0:Nat)<1,(0:Nat)<1,(0:Nat)<1,nl q.num.natAbs<2^40,nl r.den<2^40,(0:Nat)<1,(0:Nat)<1,nl q.den<2^40,nl r.num.natAbs<2^40,nl (q.num.natAbs*r.den)<2^40,nl (q.den*r.num.natAbs)<2^40,(0:Nat)<1]
         (ah.aj [(0:Nat)<1]
          (ah.leaf ax.ret
           [AV.rat (sQ (decide (q<0)!=decide (r<0)) (q.num.natAbs*r.den) (q.den*r.num.natAbs))
             (cZ (sQ (decide (q<0)!=decide (r<0)) (q.num.natAbs*r.den) (q.den*r.num.natAbs))),.int .i64 0]))).all fun _ us=>fj us (.tuple [.rat (q/r) (n+m),.int .i64 (if r=0 then 3 else 0)]):=by
  simp only[ah.all,aA]
  exact⟨⟨aa,aa,aa,aa,a1,b2,aa,aa,a2,b1,m1,m2,aa⟩,aa,dn hv hz,he,trivial⟩
 refine⟨fun h1=>⟨show 0<1 by omega,fun h2=>?_,fun h2=>hlong⟩,fun h1=>hlong⟩
 obtain⟨q1,q2⟩:=qv h1
 obtain⟨r1,r2⟩:=qv h2
 obtain⟨wx,bx⟩:=pO q1 r2
 obtain⟨wd,bd⟩:=pO q2 r1
 have hr0:r.num.natAbs≠0:=fun h=>h0 (oc.1 h)
 have hd0:q.den*r.num.natAbs≠0:=Nat.mul_ne_zero d1 hr0
 rw[if_pos h1,if_pos h2,if_pos h1,if_pos h2,wx,wd]
 simp only[ah.all,aA,bn]
 exact⟨⟨aa,aa,aa,aa,aa⟩,aa,dn hv hz,he,trivial⟩
end ops
def Sm:Spec:=bY fun l=>match l with
 |[.int .i64 n]=>some (aJ (.rat (n:Rat) (max 1 (bQ n.natAbs))) [-2^63<=n,n<2^63])
 |_=>none
theorem an3:aW P Sm vk:=by
 refine cJ fun K args r hk hs _=>?_
 split at hs
 ·simp only[az]at hs
  subst hs
  exact fun need=>JO need.1 need.2 K trivial
 ·simp at hs
end Go.Am.B
