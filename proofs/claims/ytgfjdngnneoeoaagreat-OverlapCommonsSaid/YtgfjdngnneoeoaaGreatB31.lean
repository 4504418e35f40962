/- ref02: Add, Sub, Mul, Cmp, Make, Frac, Int. -/
import Derived.Test.YtgfjdngnneoeoaaGreatB30
set_option linter.unusedVariables false
namespace Go.Am.B
open Go Go.Am.N AV Proofs.Tryz
theorem Ug:aW 69 f69:=aN func69
theorem adY:aW 68 f68:=aN func68
theorem OO:aW 57 f57:=aN func57
theorem On:aW 96 f96:=aN func96
theorem aam:aW 167 f167:=aN func167
theorem RO:aW 123 f123:=aN func123
theorem So:aW 20 f20:=aN func20
def qB:aU:=[(107,Lc),(106,Dw),(125,HT),(126,Lx),(100,wC),(105,Gk),(143,KI),(124,Ao),(58,Jz)]
def MC:Spec:=bY fun l=>match l with
 |[.int .i64 x,.int .i64 y]=>some (aI (.tuple [.rat ((x:Rat)/(y:Rat)) 64,.int .i64 (if y=0 then 3 else 0)]) [-2^63<=x,x<2^63,-2^63<=y,y<2^63])
 |_=>none
def KU:Spec:=bY fun l=>match l with
 |[.rat q n,.rat r m]=>some (aI (.rat (q+r) (n+m+1)) [n<2^41,m<2^41])
 |_=>none
def D9:aU:=[(69,KU),(124,Ao),(167,MC)]
theorem rG:aZ P qB:=aE XQ (aE Fh (aE Yp (aE Qo (aE yU (aE YY (aE Vj (aE Kw (aE RG bA))))))))
theorem abr {q r:Rat} {n m:Nat}:bD T qB [15,20,41,52] 60 f69 (aF f69) ⟨aT 0 [.rat q n,.rat r m],[],0⟩=
  let c10:Bool:=decide (r<0);let c9:Nat:=2^38;let c8:Nat:=q.den*r.den;let c7:Bool:=decide (q<0);let c6:Nat:=2^39;let c5:Nat:=2^40;let c3:Nat:=q.num.natAbs*r.den;let c2:Nat:=r.num.natAbs*q.den;let c1:Prop:=0<1;let c4:List Prop:=[nl c8<c9,c8≠0,c1];some (ag.aj [c1] (ag.fork ((↑(nl q.num.natAbs):Int)==0) (ag.aj [c1,c1] (ag.aj [c1] (ag.leaf ak.ret [rat r m]))) (ag.aj [c1] (ag.fork ((↑(nl r.num.natAbs):Int)==0) (ag.aj [c1,c1] (ag.aj [c1] (ag.leaf ak.ret [rat q n]))) (ag.aj [c1,c1,nl q.num.natAbs<c6,nl r.den<c6,c1,c1,nl r.num.natAbs<c6,nl q.den<c6] (ag.aj [c1,c1,nl q.den<c6,nl r.den<c6] (ag.aj [c1,c1] (ag.fork (c7==c10) (ag.aj (c1::(nl c3<c5)::(nl c2<c5)::(nl (c3+c2)<c9)::c4) (ag.aj [c1] (ag.leaf ak.ret [rat (sQ c7 (c3+c2) c8) (dj (sQ c7 (c3+c2) c8))]))) (ag.aj [nl c3<c5,nl c2<c5] (ag.fork (decide (cV c3 c2<0)) (ag.aj [nl c2<c5,nl c3<c5] (ag.aj (c1::(nl (c2-c3)<c9)::c4) (ag.aj [c1] (ag.leaf ak.ret [rat (sQ c10 (c2-c3) c8) (dj (sQ c10 (c2-c3) c8))])))) (ag.aj [nl c3<c5,nl c2<c5] (ag.aj (c1::(nl (c3-c2)<c9)::c4) (ag.aj [c1] (ag.leaf ak.ret [rat (sQ c7 (c3-c2) c8) (dj (sQ c7 (c3-c2) c8))])))))))))))))):=ah
theorem aaW {q r:Rat} {n m:Nat}:bD T qB [] 60 f57 (aF f57) ⟨aT 0 [.rat q n,.rat r m],[],0⟩=
  let c4:Nat:=q.num.natAbs*r.num.natAbs;let c3:Nat:=2^39;let c1:Prop:=0<1;let c2:Rat:=sQ (decide (q<0)!=decide (r<0)) c4 (q.den*r.den);some (ag.aj [c1,c1,c1,c1,nl q.num.natAbs<c3,nl r.num.natAbs<c3,c1,c1,nl q.den<c3,nl r.den<c3,nl c4<2^38,nl (q.den*r.den)<2^38,q.den*r.den≠0,c1] (ag.aj [c1] (ag.leaf ak.ret [rat c2 (dj c2)]))):=ah
theorem VL {q r:Rat} {n m:Nat}:bD T qB [14,17,30] 60 f96 (aF f96) ⟨aT 0 [.rat q n,.rat r m],[],0⟩=
  let c3:Int:=cV (q.num.natAbs*r.den) (r.num.natAbs*q.den);let c2:Nat:=2^39;let c1:Prop:=0<1;some (ag.aj [c1,c1] (ag.fork (eE q !=eE r) (ag.fork (decide (eE q<eE r)) (ag.leaf ak.ret [int .i64 (-1:Int)]) (ag.leaf ak.ret [int .i64 (1:Int)])) (ag.aj [c1,c1,nl q.num.natAbs<c2,nl r.den<c2,c1,c1,nl r.num.natAbs<c2,nl q.den<c2,nl (q.num.natAbs*r.den)<2^40,nl (r.num.natAbs*q.den)<2^40] (ag.aj [c1] (ag.fork (decide (q<0)) (ag.leaf ak.ret [int .i64 (IntKind.i64.wrap ((0:Int)-c3))]) (ag.leaf ak.ret [int .i64 c3])))))):=ah
theorem afm {x y:Int}:bD T qB [11] 60 f167 (aF f167) ⟨aT 0 [.int .i64 x,.int .i64 y],[],0⟩=
  let c3:List Prop:=[(0:Nat)<1];let c2:Int:=(2:Int)^63;let c1:Rat:=sQ (decide (x<0)!=decide (y<0)) x.natAbs y.natAbs;some (ag.fork (y==0) (ag.aj c3 (ag.aj c3 (ag.leaf ak.ret [agg [AV.bool false,mag 0,mag 0],int .i64 (3:Int)]))) (ag.aj [-c2<=x,x<c2] (ag.aj [-c2<=y,y<c2] (ag.aj ((nl x.natAbs<2^38)::(nl y.natAbs<2^38)::(y.natAbs≠0)::c3) (ag.aj c3 (ag.leaf ak.ret [rat c1 (dj c1),int .i64 (0:Int)])))))):=ah
theorem afv {x:Int}:bD T qB [] 60 f20 (aF f20) ⟨aT 0 [.int .i64 x],[],0⟩=
  some (ag.aj [-(2:Int)^63<=x,x<2^63] (ag.aj [(0:Nat)<1] (ag.aj [(0:Nat)<1] (ag.leaf ak.ret [agg [AV.bool (decide (x<0)),mag x.natAbs,mag 0]])))):=ah
theorem UY {q r:Rat} {n m:Nat}:bD T D9 [] 60 f68 (aF f68) ⟨aT 0 [.rat q n,.rat r m],[],0⟩=
  let c1:Prop:=0<1;some (ag.aj [c1,c1,n<2^41,m<2^41,c1] (ag.aj [c1] (ag.leaf ak.ret [rat (q+-r) (n+m+1)]))):=ah
theorem aeo {x y:Int}:bD T D9 [] 60 f123 (aF f123) ⟨aT 0 [.int .i64 x,.int .i64 y],[],0⟩=
  let c2:Prop:=0<1;let c1:Int:=(2:Int)^63;some (ag.aj [-c1<=x,x<c1,-c1<=y,y<c1,c2] (ag.aj [c2,c2] (ag.aj [c2] (ag.leaf ak.ret [rat ((↑x:Rat)/(↑y:Rat)) 64])))):=ah
theorem fM {N n:Nat} (h:N<2^n) (hn:n<2^42):nl N<2^38:=by
 have h1:N<2^(32*(n/32+1)):=Nat.lt_of_lt_of_le h (Nat.pow_le_pow_right aa aa)
 have:=dy.2 h1
 omega
section ops
variable {q r:Rat} {n m:Nat}
theorem nV {a b n m:Nat} (ha:a<2^n) (hb:b<2^m):a*b<2^(n+m):=by rw[Nat.pow_add];exact Nat.mul_lt_mul'' ha hb
theorem DJ (hn:n<2^41) (hm':m<2^41) (K:Nat):aO P 69 K [.rat q n,.rat r m] [] (aI (.rat (q+r) (n+m+1)) []):=by
 refine j8 fun⟨hq,hr,_⟩=>?_
 have hq:Sz q n:=hq
 have hr:Sz r m:=hr
 have d1:=q.den_nz
 have d2:=r.den_nz
 have hz:=hq.add hr
 have a1:nl q.num.natAbs<2^38:=fM hq.1 aa
 have a2:nl q.den<2^38:=fM hq.2 aa
 have b1:nl r.num.natAbs<2^38:=fM hr.1 aa
 have b2:nl r.den<2^38:=fM hr.2 aa
 have x1:=nV hq.1 hr.2
 have x2:=nV hr.1 hq.2
 have m1:nl (q.num.natAbs*r.den)<2^38:=fM x1 aa
 have m2:nl (r.num.natAbs*q.den)<2^38:=fM x2 aa
 have m3:nl (q.den*r.den)<2^38:=fM (nV hq.2 hr.2) aa
 have m4:nl (q.num.natAbs*r.den+r.num.natAbs*q.den)<2^38:=fM (n:=n+m+1) (by rw[Nat.pow_succ];rw[Nat.add_comm m n]at x2;omega) aa
 have hd0:q.den*r.den≠0:=Nat.mul_ne_zero d1 d2
 have hv:q+r=sQ (decide (q<0)) (q.num.natAbs*r.den) (q.den*r.den)+sQ (decide (r<0)) (r.num.natAbs*q.den) (q.den*r.den):=by
  have:=Co q r (decide (r<0))
  rw[kB r]at this
  exact this
 refine bJ hT rG hm Ug rfl aV rfl 60 abr (fun _=>?_) K []
 generalize q.num.natAbs*r.den=X at*
 generalize r.num.natAbs*q.den=Y at*
 generalize q.den*r.den=D at*
 simp only[ag.all,au,beq_iff_eq,beq_eq_false_iff_ne,ne_eq,bz,bF,xQ]
 have m5:nl (Y-X)<2^38:=Nat.lt_of_le_of_lt (ic aa) m2
 have m6:nl (X-Y)<2^38:=Nat.lt_of_le_of_lt (ic aa) m1
 refine⟨aa,fun hb=>⟨⟨aa,aa⟩,aa,er ?_ hz⟩,fun hb=>⟨aa,fun hb2=>⟨⟨aa,aa⟩,aa,er ?_ hz⟩,fun hb2=>⟨⟨aa,aa,aa,aa,aa,aa,aa,aa⟩,⟨aa,aa,aa,aa⟩,⟨aa,aa⟩,
  fun hs=>⟨⟨aa,aa,aa,m4,m3,hd0,aa⟩,aa,er ?_ hz⟩,fun hs=>⟨⟨aa,aa⟩,fun hl=>⟨⟨aa,aa⟩,⟨aa,m5,m3,hd0,aa⟩,aa,er ?_ hz⟩,fun hl=>⟨⟨aa,aa⟩,⟨aa,m6,m3,hd0,aa⟩,aa,er ?_ hz⟩⟩⟩⟩⟩
 ·have h0:q=0:=nK.1 (jX.1 aa)
  rw[h0,Rat.zero_add]
 ·have h0:r=0:=nK.1 (jX.1 aa)
  rw[h0,Rat.add_zero]
 ·rw[hv,hs,Bk hd0]
 ·rw[hv,A4 hd0 hs aa]
 ·rw[hv,A0 hd0 hs aa]
theorem Fe (hn:n<2^41) (hm':m<2^41) (K:Nat):aO P 57 K [.rat q n,.rat r m] [] (aI (.rat (q*r) (n+m)) []):=by
 refine j8 fun⟨hq,hr,_⟩=>?_
 have hq:Sz q n:=hq
 have hr:Sz r m:=hr
 have d1:=q.den_nz
 have d2:=r.den_nz
 have a1:nl q.num.natAbs<2^38:=fM hq.1 aa
 have a2:nl q.den<2^38:=fM hq.2 aa
 have b1:nl r.num.natAbs<2^38:=fM hr.1 aa
 have b2:nl r.den<2^38:=fM hr.2 aa
 have m1:nl (q.num.natAbs*r.num.natAbs)<2^38:=fM (nV hq.1 hr.1) aa
 have m3:nl (q.den*r.den)<2^38:=fM (nV hq.2 hr.2) aa
 have hv:sQ (decide (q<0)!=decide (r<0)) (q.num.natAbs*r.num.natAbs) (q.den*r.den)=q*r:=by rw[<-BQ,kB,kB]
 refine bJ hT rG hm OO rfl aV rfl 60 aaW (fun _=>?_) K []
 simp only[ag.all,au]
 exact⟨⟨aa,aa,aa,aa,aa,aa,aa,aa,aa,aa,m1,m3,Nat.mul_ne_zero d1 d2,aa⟩,aa,er hv (hq.mul hr)⟩
theorem IW (hn:n<2^41) (hm':m<2^41) (K:Nat):aO P 96 K [.rat q n,.rat r m] [] (aI (.int .i64 (cZ q r)) []):=by
 refine j8 fun⟨hq,hr,_⟩=>?_
 have hq:Sz q n:=hq
 have hr:Sz r m:=hr
 have a1:nl q.num.natAbs<2^38:=fM hq.1 aa
 have a2:nl q.den<2^38:=fM hq.2 aa
 have b1:nl r.num.natAbs<2^38:=fM hr.1 aa
 have b2:nl r.den<2^38:=fM hr.2 aa
 have m1:nl (q.num.natAbs*r.den)<2^38:=fM (nV hq.1 hr.2) aa
 have m2:nl (r.num.natAbs*q.den)<2^38:=fM (nV hr.1 hq.2) aa
 refine bJ hT rG hm On rfl aV rfl 60 VL (fun _=>?_) K []
 simp only[ag.all,au,bne_iff_ne,ne_eq,bne_eq_false_iff_eq]
 refine⟨⟨aa,aa⟩,fun hs=>⟨fun hl=>bU ?_,fun hl=>bU ?_⟩,fun hs=>⟨⟨aa,aa,aa,aa,aa,aa,aa,aa,aa,aa⟩,aa,fun hc=>bU ?_,fun hc=>bU ?_⟩⟩
 ·rw[zP hs,if_pos (of_decide_eq_true hl)]
 ·rw[zP hs,if_neg (of_decide_eq_false hl)]
 ·rw[nw hs,if_pos (of_decide_eq_true hc),yH]
 ·rw[nw hs,if_neg (of_decide_eq_false hc)]
end ops
theorem Kx {x y:Int} (hy:y≠0):sQ (decide (x<0)!=decide (y<0)) x.natAbs y.natAbs=(x:Rat)/(y:Rat):=by
 have h:=Ar (x:Rat) (y:Rat) (by simpa using hy)
 have c:∀{z:Int},decide ((z:Rat)<0)=decide (z<0):=fun {z}=>by rw[decide_eq_decide,iZ,Rat.num_intCast]
 rw[c,c,Rat.num_intCast,Rat.num_intCast,Rat.den_intCast,Rat.den_intCast,Nat.mul_one,Nat.one_mul]at h
 exact h
theorem KE {x y:Int} (h1:-2^63<=x) (h2:x<2^63) (h3:-2^63<=y) (h4:y<2^63) (hy:y≠0):Sz ((x:Rat)/(y:Rat)) 64:=by
 rw[<-Kx hy];exact AI aa aa aa
theorem Y4 {x y:Int} (h1:-2^63<=x) (h2:x<2^63) (h3:-2^63<=y) (h4:y<2^63) (K:Nat):aO P 167 K [.int .i64 x,.int .i64 y] [] (aI (.tuple [.rat ((x:Rat)/(y:Rat)) 64,.int .i64 (if y=0 then 3 else 0)]) []):=by
 refine bJ hT rG hm aam rfl aV rfl 60 afm (fun _=>?_) K []
 simp only[ag.all,au,beq_iff_eq,beq_eq_false_iff_ne,ne_eq]
 refine⟨fun hb=>⟨aa,aa,?_,bU (by rw[if_pos hb]),trivial⟩,fun hb=>⟨⟨h1,h2⟩,⟨h3,h4⟩,⟨fM (n:=64) aa aa,fM (n:=64) aa aa,aa,aa⟩,aa,er (Kx hb) (KE h1 h2 h3 h4 hb),bU (by rw[if_neg hb]),trivial⟩⟩
 rw[hb,show((x:Rat)/((0:Int):Rat))=0 by rw[Rat.intCast_zero,Rat.div_def,Rat.inv_zero,Rat.mul_zero]]
 exact mT
theorem I3 {n:Int} (h1:-2^63<=n) (h2:n<2^63) (K:Nat):aO P 20 K [.int .i64 n] [] (aI (.rat (n:Rat) (max 1 (bO n.natAbs))) []):=by
 refine bJ hT rG hm So rfl aV rfl 60 afv (fun _=>?_) K []
 simp only[ag.all,au]
 refine⟨⟨h1,h2⟩,aa,aa,rz Dx ?_ (by rw[Rat.num_intCast]) (by rw[Rat.den_intCast,if_pos rfl])⟩
 rw[decide_eq_decide,iZ,Rat.num_intCast]
theorem RI:aY P MC 167:=by
 refine cJ fun K args r hk hs _=>?_
 split at hs
 ·simp only[ax]at hs
  subst hs
  exact fun need=>Y4 need.1 need.2.1 need.2.2.1 need.2.2.2 K trivial
 ·simp at hs
theorem agU:aY P KU 69:=by
 refine cJ fun K args r hk hs _=>?_
 split at hs
 ·simp only[ax]at hs
  subst hs
  exact fun need=>DJ need.1 need.2 K trivial
 ·simp at hs
theorem HB:aZ P D9:=aE agU (aE Kw (aE RI bA))
theorem Kt {q r:Rat} {n m:Nat} (hn:n<2^41) (hm':m<2^41) (K:Nat):aO P 68 K [.rat q n,.rat r m] [] (aI (.rat (q-r) (n+m+1)) []):=by
 refine bJ hT HB hm adY rfl aV rfl 60 UY (fun _=>?_) K []
 simp only[ag.all,au]
 exact⟨⟨aa,aa,hn,hm',aa⟩,aa,dM (by rw[Rat.sub_eq_add_neg])⟩
theorem VU {x y:Int} (h1:-2^63<=x) (h2:x<2^63) (h3:-2^63<=y) (h4:y<2^63) (K:Nat):aO P 123 K [.int .i64 x,.int .i64 y] [] (aI (.rat ((x:Rat)/(y:Rat)) 64) []):=by
 refine bJ hT HB hm RO rfl aV rfl 60 aeo (fun _=>?_) K []
 simp only[ag.all,au]
 exact⟨⟨h1,h2,h3,h4,aa⟩,⟨aa,aa⟩,aa,.refl _⟩
def yO:Spec:=bY fun l=>match l with
 |[.int .i64 n]=>some (aI (.rat (n:Rat) (max 1 (bO n.natAbs))) [-2^63<=n,n<2^63])
 |_=>none
theorem B5:aY P yO 20:=by
 refine cJ fun K args r hk hs _=>?_
 split at hs
 ·simp only[ax]at hs
  subst hs
  exact fun need=>I3 need.1 need.2 K trivial
 ·simp at hs
def KQ:Spec:=bY fun l=>match l with
 |[.int .i64 x,.int .i64 y]=>some (aI (.rat ((x:Rat)/(y:Rat)) 64) [-2^63<=x,x<2^63,-2^63<=y,y<2^63])
 |_=>none
theorem ab5:aY P KQ 123:=by
 refine cJ fun K args r hk hs _=>?_
 split at hs
 ·simp only[ax]at hs
  subst hs
  exact fun need=>VU need.1 need.2.1 need.2.2.1 need.2.2.2 K trivial
 ·simp at hs
end Go.Am.B
