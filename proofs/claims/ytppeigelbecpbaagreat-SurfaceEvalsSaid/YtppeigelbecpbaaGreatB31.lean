/- ref02: Add, Sub, Mul, Cmp, Make, Frac, Int. -/
import Derived.Test.YtppeigelbecpbaaGreatB30
set_option linter.unusedVariables false
namespace Go.Am.B
open Go Go.Am.N AV
theorem XL:aO P oy uI (aq uI):=aP Td (by kernel_rfl) (by kernel_rfl) (by kernel_rfl)
theorem aeT:aO P yu vD (aq vD):=aP aaX (by kernel_rfl) (by kernel_rfl) (by kernel_rfl)
theorem Y2:aO P sw sY (aq sY):=aP PB (by kernel_rfl) (by kernel_rfl) (by kernel_rfl)
theorem Pr:aO P wV ym (aq ym):=aP aaG (by kernel_rfl) (by kernel_rfl) (by kernel_rfl)
theorem UU:aO P yU yp (aq yp):=aP Pn (by kernel_rfl) (by kernel_rfl) (by kernel_rfl)
theorem abS:aO P lY vX (aq vX):=aP aew (by kernel_rfl) (by kernel_rfl) (by kernel_rfl)
theorem TB:aO P jE wL (aq wL):=aP Ot (by kernel_rfl) (by kernel_rfl) (by kernel_rfl)
def o5:aS:=[(xF,HG),(rM,C2),(yV,Fx),(wF,LS),(mE,yt),(wN,FN),(oL,H7),(rS,DG),(vN,LC)]
def Mj:Spec:=bA fun l=>match l with
 |[.int .i64 x,.int .i64 y]=>some (aF (.tuple [.rat ((x:Rat)/(y:Rat)) 64,.int .i64 (if y=0 then 3 else 0)]) [-2^63≤x,x<2^63,-2^63≤y,y<2^63])
 |_=>none
def L9:Spec:=bA fun l=>match l with
 |[.rat q n,.rat r m]=>some (aF (.rat (q+r) (n+m+1)) [n<2^41,m<2^41])
 |_=>none
def C4:aS:=[(oy,L9),(rS,DG),(yU,Mj)]
theorem rP:aW P o5:=aD Xh (aD KV (aD Ud (aD aec (aD Al (aD ae7 (aD agr (aD IN (aD SH aX))))))))
theorem WG {q r:Rat} {n m:Nat}:bu T o5 [15,20,41,52] 60 uI (aq uI) ⟨aM 0 [.rat q n,.rat r m],[],0⟩=
  let c10:Bool:=decide (r<0);let c9:Nat:=2^38;let c8:Nat:=q.den*r.den;let c7:Bool:=decide (q<0);let c6:Nat:=2^39;let c5:Nat:=2^40;let c3:Nat:=q.num.natAbs*r.den;let c2:Nat:=r.num.natAbs*q.den;let c1:Prop:=0<1;let c4:List Prop:=[nl c8<c9,c8≠0,c1];some (aa.af [c1] (aa.fork ((↑(nl q.num.natAbs):Int)==(0:Int)) (aa.af [c1,c1] (aa.af [c1] (aa.leaf aj.ret [rat r m]))) (aa.af [c1] (aa.fork ((↑(nl r.num.natAbs):Int)==(0:Int)) (aa.af [c1,c1] (aa.af [c1] (aa.leaf aj.ret [rat q n]))) (aa.af [c1,c1,nl q.num.natAbs<c6,nl r.den<c6,c1,c1,nl r.num.natAbs<c6,nl q.den<c6] (aa.af [c1,c1,nl q.den<c6,nl r.den<c6] (aa.af [c1,c1] (aa.fork (c7==c10) (aa.af (c1::(nl c3<c5)::(nl c2<c5)::(nl (c3+c2)<c9)::c4) (aa.af [c1] (aa.leaf aj.ret [rat (sQ c7 (c3+c2) c8) (ck (sQ c7 (c3+c2) c8))]))) (aa.af [nl c3<c5,nl c2<c5] (aa.fork (decide (ct c3 c2<(0:Int))) (aa.af [nl c2<c5,nl c3<c5] (aa.af (c1::(nl (c2-c3)<c9)::c4) (aa.af [c1] (aa.leaf aj.ret [rat (sQ c10 (c2-c3) c8) (ck (sQ c10 (c2-c3) c8))])))) (aa.af [nl c3<c5,nl c2<c5] (aa.af (c1::(nl (c3-c2)<c9)::c4) (aa.af [c1] (aa.leaf aj.ret [rat (sQ c7 (c3-c2) c8) (ck (sQ c7 (c3-c2) c8))])))))))))))))):=by kernel_rfl
theorem acv {q r:Rat} {n m:Nat}:bu T o5 [] 60 sY (aq sY) ⟨aM 0 [.rat q n,.rat r m],[],0⟩=
  let c4:Nat:=q.num.natAbs*r.num.natAbs;let c3:Nat:=2^39;let c1:Prop:=0<1;let c2:Rat:=sQ (decide (q<0)!=decide (r<0)) c4 (q.den*r.den);some (aa.af [c1,c1,c1,c1,nl q.num.natAbs<c3,nl r.num.natAbs<c3,c1,c1,nl q.den<c3,nl r.den<c3,nl c4<2^38,nl (q.den*r.den)<2^38,q.den*r.den≠0,c1] (aa.af [c1] (aa.leaf aj.ret [rat c2 (ck c2)]))):=by kernel_rfl
theorem PL {q r:Rat} {n m:Nat}:bu T o5 [14,17,30] 60 ym (aq ym) ⟨aM 0 [.rat q n,.rat r m],[],0⟩=
  let c3 : Int := ct (q.num.natAbs * r.den) (r.num.natAbs * q.den); let c2 : Nat := 2 ^ 39; let c1 : Prop := 0 < 1; some (aa.af [c1, c1] (aa.fork (dL q != dL r) (aa.fork (decide (dL q < dL r)) (aa.leaf aj.ret [int IntKind.i64 (-1 : Int)]) (aa.leaf aj.ret [int IntKind.i64 (1 : Int)])) (aa.af [c1, c1, nl q.num.natAbs < c2, nl r.den < c2, c1, c1, nl r.num.natAbs < c2, nl q.den < c2, nl (q.num.natAbs * r.den) < 2 ^ 40, nl (r.num.natAbs * q.den) < 2 ^ 40] (aa.af [c1] (aa.fork (decide (q < 0)) (aa.leaf aj.ret [int IntKind.i64 (IntKind.i64.wrap ((0 : Int) - c3))]) (aa.leaf aj.ret [int IntKind.i64 c3])))))) := by kernel_rfl
theorem adQ {x y:Int}:bu T o5 [11] 60 yp (aq yp) ⟨aM 0 [.int .i64 x,.int .i64 y],[],0⟩=
  let c3:List Prop:=[(0:Nat)<1];let c2:Int:=(2:Int)^63;let c1:Rat:=sQ (decide (x<(0:Int))!=decide (y<(0:Int))) x.natAbs y.natAbs;some (aa.fork (y==(0:Int)) (aa.af c3 (aa.af c3 (aa.leaf aj.ret [agg [AV.bool false,mag 0,mag 0],int IntKind.i64 (3:Int)]))) (aa.af [-c2≤x,x<c2] (aa.af [-c2≤y,y<c2] (aa.af ((nl x.natAbs<2^38)::(nl y.natAbs<2^38)::(y.natAbs≠0)::c3) (aa.af c3 (aa.leaf aj.ret [rat c1 (ck c1),int IntKind.i64 (0:Int)])))))):=by kernel_rfl
theorem PW {x:Int}:bu T o5 [] 60 wL (aq wL) ⟨aM 0 [.int .i64 x],[],0⟩=
  some (aa.af [-(2:Int)^63≤x,x<(2:Int)^63] (aa.af [(0:Nat)<1] (aa.af [(0:Nat)<1] (aa.leaf aj.ret [agg [AV.bool (decide (x<(0:Int))),mag x.natAbs,mag 0]])))):=by kernel_rfl
theorem SY {q r:Rat} {n m:Nat}:bu T C4 [] 60 vD (aq vD) ⟨aM 0 [.rat q n,.rat r m],[],0⟩=
  let c1:Prop:=0<1;some (aa.af [c1,c1,n<2^41,m<2^41,c1] (aa.af [c1] (aa.leaf aj.ret [rat (q+-r) (n+m+1)]))):=by kernel_rfl
theorem RM {x y:Int}:bu T C4 [] 60 vX (aq vX) ⟨aM 0 [.int .i64 x,.int .i64 y],[],0⟩=
  let c2:Prop:=0<1;let c1:Int:=(2:Int)^63;some (aa.af [-c1≤x,x<c1,-c1≤y,y<c1,c2] (aa.af [c2,c2] (aa.af [c2] (aa.leaf aj.ret [rat ((↑x:Rat)/(↑y:Rat)) 64])))):=by kernel_rfl
theorem er {N n:Nat} (h:N<2^n) (hn:n<2^42):nl N<2^38:=by
 have h1:N<2^(32*(n/32+1)):=Nat.lt_of_lt_of_le h (Nat.pow_le_pow_right (by omega) (by omega))
 have:=cI.2 h1
 omega
section ops
variable {q r:Rat} {n m:Nat}
theorem lG {a b n m:Nat} (ha:a<2^n) (hb:b<2^m):a*b<2^(n+m):=by rw[Nat.pow_add];exact Nat.mul_lt_mul'' ha hb
theorem E4 (hn:n<2^41) (hm':m<2^41) (K:Nat):az P oy K [.rat q n,.rat r m] [] (aF (.rat (q+r) (n+m+1)) []):=by
 refine gU fun⟨hq,hr,_⟩=>?_
 have hq:Sz q n:=hq
 have hr:Sz r m:=hr
 have d1:=q.den_nz
 have d2:=r.den_nz
 have hz:=hq.add hr
 have a1:nl q.num.natAbs<2^38:=er hq.1 (by omega)
 have a2:nl q.den<2^38:=er hq.2 (by omega)
 have b1:nl r.num.natAbs<2^38:=er hr.1 (by omega)
 have b2:nl r.den<2^38:=er hr.2 (by omega)
 have x1:=lG hq.1 hr.2
 have x2:=lG hr.1 hq.2
 have m1:nl (q.num.natAbs*r.den)<2^38:=er x1 (by omega)
 have m2:nl (r.num.natAbs*q.den)<2^38:=er x2 (by omega)
 have m3:nl (q.den*r.den)<2^38:=er (lG hq.2 hr.2) (by omega)
 have m4:nl (q.num.natAbs*r.den+r.num.natAbs*q.den)<2^38:=er (n:=n+m+1) (by rw[Nat.pow_succ];rw[Nat.add_comm m n]at x2;omega) (by omega)
 have hd0:q.den*r.den≠0:=Nat.mul_ne_zero d1 d2
 have hv:q+r=sQ (decide (q<0)) (q.num.natAbs*r.den) (q.den*r.den)+sQ (decide (r<0)) (r.num.natAbs*q.den) (q.den*r.den):=by
  have:=C0 q r (decide (r<0))
  rw[jo r]at this
  exact this
 refine bC hT rP hm XL rfl (of_decide_eq_true (by kernel_rfl)) rfl 60 WG (fun _=>?_) K []
 generalize q.num.natAbs*r.den=X at*
 generalize r.num.natAbs*q.den=Y at*
 generalize q.den*r.den=D at*
 simp only[aa.all,ax,beq_iff_eq,beq_eq_false_iff_ne,ne_eq,decide_eq_true_eq,decide_eq_false_iff_not,Ba]
 have m5:nl (Y-X)<2^38:=Nat.lt_of_le_of_lt (fO (by omega)) m2
 have m6:nl (X-Y)<2^38:=Nat.lt_of_le_of_lt (fO (by omega)) m1
 refine⟨by omega,fun hb=>⟨⟨by omega,by omega⟩,by omega,fl ?_ hz⟩,fun hb=>⟨by omega,fun hb2=>⟨⟨by omega,by omega⟩,by omega,fl ?_ hz⟩,fun hb2=>⟨⟨by omega,by omega,by omega,by omega,by omega,by omega,by omega,by omega⟩,⟨by omega,by omega,by omega,by omega⟩,⟨by omega,by omega⟩,
  fun hs=>⟨⟨by omega,by omega,by omega,m4,m3,hd0,by omega⟩,by omega,fl ?_ hz⟩,fun hs=>⟨⟨by omega,by omega⟩,fun hl=>⟨⟨by omega,by omega⟩,⟨by omega,m5,m3,hd0,by omega⟩,by omega,fl ?_ hz⟩,fun hl=>⟨⟨by omega,by omega⟩,⟨by omega,m6,m3,hd0,by omega⟩,by omega,fl ?_ hz⟩⟩⟩⟩⟩
 ·have h0:q=0:=kZ.1 (gM.1 (by omega))
  rw[h0,Rat.zero_add]
 ·have h0:r=0:=kZ.1 (gM.1 (by omega))
  rw[h0,Rat.add_zero]
 ·rw[hv,hs,CZ hd0]
 ·rw[hv,Dw hd0 hs (by omega)]
 ·rw[hv,E8 hd0 hs (by omega)]
theorem HU (hn:n<2^41) (hm':m<2^41) (K:Nat):az P sw K [.rat q n,.rat r m] [] (aF (.rat (q*r) (n+m)) []):=by
 refine gU fun⟨hq,hr,_⟩=>?_
 have hq:Sz q n:=hq
 have hr:Sz r m:=hr
 have d1:=q.den_nz
 have d2:=r.den_nz
 have a1:nl q.num.natAbs<2^38:=er hq.1 (by omega)
 have a2:nl q.den<2^38:=er hq.2 (by omega)
 have b1:nl r.num.natAbs<2^38:=er hr.1 (by omega)
 have b2:nl r.den<2^38:=er hr.2 (by omega)
 have m1:nl (q.num.natAbs*r.num.natAbs)<2^38:=er (lG hq.1 hr.1) (by omega)
 have m3:nl (q.den*r.den)<2^38:=er (lG hq.2 hr.2) (by omega)
 have hv:sQ (decide (q<0)!=decide (r<0)) (q.num.natAbs*r.num.natAbs) (q.den*r.den)=q*r:=by rw[←BS,jo,jo]
 refine bC hT rP hm Y2 rfl (of_decide_eq_true (by kernel_rfl)) rfl 60 acv (fun _=>?_) K []
 simp only[aa.all,ax]
 exact⟨⟨by omega,by omega,by omega,by omega,by omega,by omega,by omega,by omega,by omega,by omega,m1,m3,Nat.mul_ne_zero d1 d2,by omega⟩,by omega,fl hv (hq.mul hr)⟩
theorem Lk (hn:n<2^41) (hm':m<2^41) (K:Nat):az P wV K [.rat q n,.rat r m] [] (aF (.int .i64 (eU q r)) []):=by
 refine gU fun⟨hq,hr,_⟩=>?_
 have hq:Sz q n:=hq
 have hr:Sz r m:=hr
 have a1:nl q.num.natAbs<2^38:=er hq.1 (by omega)
 have a2:nl q.den<2^38:=er hq.2 (by omega)
 have b1:nl r.num.natAbs<2^38:=er hr.1 (by omega)
 have b2:nl r.den<2^38:=er hr.2 (by omega)
 have m1:nl (q.num.natAbs*r.den)<2^38:=er (lG hq.1 hr.2) (by omega)
 have m2:nl (r.num.natAbs*q.den)<2^38:=er (lG hr.1 hq.2) (by omega)
 refine bC hT rP hm Pr rfl (of_decide_eq_true (by kernel_rfl)) rfl 60 PL (fun _=>?_) K []
 simp only[aa.all,ax,bne_iff_ne,ne_eq,bne_eq_false_iff_eq]
 refine⟨⟨by omega,by omega⟩,fun hs=>⟨fun hl=>br ?_,fun hl=>br ?_⟩,fun hs=>⟨⟨by omega,by omega,by omega,by omega,by omega,by omega,by omega,by omega,by omega,by omega⟩,by omega,fun hc=>br ?_,fun hc=>br ?_⟩⟩
 ·rw[Br hs,if_pos (of_decide_eq_true hl)]
 ·rw[Br hs,if_neg (of_decide_eq_false hl)]
 ·rw[lF hs,if_pos (of_decide_eq_true hc),BE]
 ·rw[lF hs,if_neg (of_decide_eq_false hc)]
end ops
theorem Ic {x y:Int} (hy:y≠0):sQ (decide (x<0)!=decide (y<0)) x.natAbs y.natAbs=(x:Rat)/(y:Rat):=by
 have h:=Dt (x:Rat) (y:Rat) (by simpa using hy)
 have c:∀{z:Int},decide ((z:Rat)<0)=decide (z<0):=fun {z}=>by rw[decide_eq_decide,gx,Rat.num_intCast]
 rw[c,c,Rat.num_intCast,Rat.num_intCast,Rat.den_intCast,Rat.den_intCast,Nat.mul_one,Nat.one_mul]at h
 exact h
theorem Lj {x y:Int} (h1:-2^63≤x) (h2:x<2^63) (h3:-2^63≤y) (h4:y<2^63) (hy:y≠0):Sz ((x:Rat)/(y:Rat)) 64:=by
 rw[←Ic hy];exact B0 (by omega) (by omega) (by omega)
theorem W3 {x y:Int} (h1:-2^63≤x) (h2:x<2^63) (h3:-2^63≤y) (h4:y<2^63) (K:Nat):az P yU K [.int .i64 x,.int .i64 y] [] (aF (.tuple [.rat ((x:Rat)/(y:Rat)) 64,.int .i64 (if y=0 then 3 else 0)]) []):=by
 refine bC hT rP hm UU rfl (of_decide_eq_true (by kernel_rfl)) rfl 60 adQ (fun _=>?_) K []
 simp only[aa.all,ax,beq_iff_eq,beq_eq_false_iff_ne,ne_eq]
 refine⟨fun hb=>⟨by omega,by omega,?_,br (by rw[if_pos hb]),trivial⟩,fun hb=>⟨⟨h1,h2⟩,⟨h3,h4⟩,⟨er (n:=64) (by omega) (by omega),er (n:=64) (by omega) (by omega),by omega,by omega⟩,by omega,fl (Ic hb) (Lj h1 h2 h3 h4 hb),br (by rw[if_neg hb]),trivial⟩⟩
 rw[hb,show((x:Rat)/((0:Int):Rat))=0 by rw[Rat.intCast_zero,Rat.div_def,Rat.inv_zero,Rat.mul_zero]]
 exact iE
theorem Bh {n:Int} (h1:-2^63≤n) (h2:n<2^63) (K:Nat):az P jE K [.int .i64 n] [] (aF (.rat (n:Rat) (max 1 (bp n.natAbs))) []):=by
 refine bC hT rP hm TB rfl (of_decide_eq_true (by kernel_rfl)) rfl 60 PW (fun _=>?_) K []
 simp only[aa.all,ax]
 refine⟨⟨h1,h2⟩,by omega,by omega,oG CA ?_ (by rw[Rat.num_intCast]) (by rw[Rat.den_intCast,if_pos rfl])⟩
 rw[decide_eq_decide,gx,Rat.num_intCast]
theorem afW:∀K args pre r,Mj K args pre=some r→az P yU K args pre r:=by
 refine bS fun K args r hk hs _=>?_
 split at hs
 ·simp only[Option.some.injEq]at hs
  subst hs
  exact fun need=>W3 need.1 need.2.1 need.2.2.1 need.2.2.2 K trivial
 ·simp at hs
theorem Vs:∀K args pre r,L9 K args pre=some r→az P oy K args pre r:=by
 refine bS fun K args r hk hs _=>?_
 split at hs
 ·simp only[Option.some.injEq]at hs
  subst hs
  exact fun need=>E4 need.1 need.2 K trivial
 ·simp at hs
theorem Gt:aW P C4:=aD Vs (aD IN (aD afW aX))
theorem Fw {q r:Rat} {n m:Nat} (hn:n<2^41) (hm':m<2^41) (K:Nat):az P yu K [.rat q n,.rat r m] [] (aF (.rat (q-r) (n+m+1)) []):=by
 refine bC hT Gt hm aeT rfl (of_decide_eq_true (by kernel_rfl)) rfl 60 SY (fun _=>?_) K []
 simp only[aa.all,ax]
 exact⟨⟨by omega,by omega,hn,hm',by omega⟩,by omega,de (by rw[Rat.sub_eq_add_neg])⟩
theorem Xs {x y:Int} (h1:-2^63≤x) (h2:x<2^63) (h3:-2^63≤y) (h4:y<2^63) (K:Nat):az P lY K [.int .i64 x,.int .i64 y] [] (aF (.rat ((x:Rat)/(y:Rat)) 64) []):=by
 refine bC hT Gt hm abS rfl (of_decide_eq_true (by kernel_rfl)) rfl 60 RM (fun _=>?_) K []
 simp only[aa.all,ax]
 exact⟨⟨h1,h2,h3,h4,by omega⟩,⟨by omega,by omega⟩,by omega,.refl _⟩
def yS:Spec:=bA fun l=>match l with
 |[.int .i64 n]=>some (aF (.rat (n:Rat) (max 1 (bp n.natAbs))) [-2^63≤n,n<2^63])
 |_=>none
theorem AM:∀K args pre r,yS K args pre=some r→az P jE K args pre r:=by
 refine bS fun K args r hk hs _=>?_
 split at hs
 ·simp only[Option.some.injEq]at hs
  subst hs
  exact fun need=>Bh need.1 need.2 K trivial
 ·simp at hs
def qg:Spec:=bA fun l=>match l with
 |[.int .i64 x,.int .i64 y]=>some (aF (.rat ((x:Rat)/(y:Rat)) 64) [-2^63≤x,x<2^63,-2^63≤y,y<2^63])
 |_=>none
theorem r9:∀K args pre r,qg K args pre=some r→az P lY K args pre r:=by
 refine bS fun K args r hk hs _=>?_
 split at hs
 ·simp only[Option.some.injEq]at hs
  subst hs
  exact fun need=>Xs need.1 need.2.1 need.2.2.1 need.2.2.2 K trivial
 ·simp at hs
end Go.Am.B
