/- ref02: Add, Sub, Mul, Cmp, Make, Frac, Int. -/
import Derived.Test.YtppeigelbecpbaaGreatB30
set_option linter.unusedVariables false
namespace Go.Am.B
open Go Go.Am.N AV
theorem Uc:aN P ou tA (au tA):=aO M9 (by kernel_rfl) (by kernel_rfl) (by kernel_rfl)
theorem TL:aN P wQ qx (au qx):=aO VU (by kernel_rfl) (by kernel_rfl) (by kernel_rfl)
theorem Tb:aN P xG ta (au ta):=aO XJ (by kernel_rfl) (by kernel_rfl) (by kernel_rfl)
theorem Rv:aN P xj rR (au rR):=aO XI (by kernel_rfl) (by kernel_rfl) (by kernel_rfl)
theorem II:aN P tf vq (au vq):=aO Uz (by kernel_rfl) (by kernel_rfl) (by kernel_rfl)
theorem Wm:aN P pF uw (au uw):=aO NQ (by kernel_rfl) (by kernel_rfl) (by kernel_rfl)
theorem LF:aN P oC vO (au vO):=aO Py (by kernel_rfl) (by kernel_rfl) (by kernel_rfl)
def p8:aT:=[(tO,GZ),(qc,zy),(qH,CF),(vF,FB),(mB,qw),(sO,DP),(qo,Ii),(oF,zw),(sX,H6)]
def E4:Spec:=bq fun l=>match l with
 |[.int .i64 x,.int .i64 y]=>some (aG (.tuple [.rat ((x:Rat)/(y:Rat)) 64,.int .i64 (if y=0 then 3 else 0)]) [-2^63≤x,x<2^63,-2^63≤y,y<2^63])
 |_=>none
def G8:Spec:=bq fun l=>match l with
 |[.rat q n,.rat r m]=>some (aG (.rat (q+r) (n+m+1)) [n<2^41,m<2^41])
 |_=>none
def BZ:aT:=[(ou,G8),(oF,zw),(tf,E4)]
theorem rV:bp P p8:=aK Yh (aK CY (aK Ya (aK J2 (aK xN (aK KX (aK Wu (aK DE (aK Jq br))))))))
theorem NO {q r:Rat} {n m:Nat}:bu T p8 [15,20,41,52] 60 tA (au tA) ⟨aM 0 [.rat q n,.rat r m],[],0⟩=
  let c10:Bool:=decide (r<0);let c9:Nat:=2^38;let c8:Nat:=q.den*r.den;let c7:Bool:=decide (q<0);let c6:Nat:=2^39;let c5:Nat:=2^40;let c3:Nat:=q.num.natAbs*r.den;let c2:Nat:=r.num.natAbs*q.den;let c1:Prop:=0<1;let c4:List Prop:=[nl c8<c9,c8≠0,c1];some (aa.ag [c1] (aa.fork ((↑(nl q.num.natAbs):Int)==(0:Int)) (aa.ag [c1,c1] (aa.ag [c1] (aa.leaf ah.ret [rat r m]))) (aa.ag [c1] (aa.fork ((↑(nl r.num.natAbs):Int)==(0:Int)) (aa.ag [c1,c1] (aa.ag [c1] (aa.leaf ah.ret [rat q n]))) (aa.ag [c1,c1,nl q.num.natAbs<c6,nl r.den<c6,c1,c1,nl r.num.natAbs<c6,nl q.den<c6] (aa.ag [c1,c1,nl q.den<c6,nl r.den<c6] (aa.ag [c1,c1] (aa.fork (c7==c10) (aa.ag (c1::(nl c3<c5)::(nl c2<c5)::(nl (c3+c2)<c9)::c4) (aa.ag [c1] (aa.leaf ah.ret [rat (sQ c7 (c3+c2) c8) (bV (sQ c7 (c3+c2) c8))]))) (aa.ag [nl c3<c5,nl c2<c5] (aa.fork (decide (bY c3 c2<(0:Int))) (aa.ag [nl c2<c5,nl c3<c5] (aa.ag (c1::(nl (c2-c3)<c9)::c4) (aa.ag [c1] (aa.leaf ah.ret [rat (sQ c10 (c2-c3) c8) (bV (sQ c10 (c2-c3) c8))])))) (aa.ag [nl c3<c5,nl c2<c5] (aa.ag (c1::(nl (c3-c2)<c9)::c4) (aa.ag [c1] (aa.leaf ah.ret [rat (sQ c7 (c3-c2) c8) (bV (sQ c7 (c3-c2) c8))])))))))))))))):=by kernel_rfl
theorem Nm {q r:Rat} {n m:Nat}:bu T p8 [] 60 ta (au ta) ⟨aM 0 [.rat q n,.rat r m],[],0⟩=
  let c4:Nat:=q.num.natAbs*r.num.natAbs;let c3:Nat:=2^39;let c1:Prop:=0<1;let c2:Rat:=sQ (decide (q<0)!=decide (r<0)) c4 (q.den*r.den);some (aa.ag [c1,c1,c1,c1,nl q.num.natAbs<c3,nl r.num.natAbs<c3,c1,c1,nl q.den<c3,nl r.den<c3,nl c4<2^38,nl (q.den*r.den)<2^38,q.den*r.den≠0,c1] (aa.ag [c1] (aa.leaf ah.ret [rat c2 (bV c2)]))):=by kernel_rfl
theorem JX {q r:Rat} {n m:Nat}:bu T p8 [14,17,30] 60 rR (au rR) ⟨aM 0 [.rat q n,.rat r m],[],0⟩=
  let c3 : Int := bY (q.num.natAbs * r.den) (r.num.natAbs * q.den); let c2 : Nat := 2 ^ 39; let c1 : Prop := 0 < 1; some (aa.ag [c1, c1] (aa.fork (dx q != dx r) (aa.fork (decide (dx q < dx r)) (aa.leaf ah.ret [int IntKind.i64 (-1 : Int)]) (aa.leaf ah.ret [int IntKind.i64 (1 : Int)])) (aa.ag [c1, c1, nl q.num.natAbs < c2, nl r.den < c2, c1, c1, nl r.num.natAbs < c2, nl q.den < c2, nl (q.num.natAbs * r.den) < 2 ^ 40, nl (r.num.natAbs * q.den) < 2 ^ 40] (aa.ag [c1] (aa.fork (decide (q < 0)) (aa.leaf ah.ret [int IntKind.i64 (IntKind.i64.wrap ((0 : Int) - c3))]) (aa.leaf ah.ret [int IntKind.i64 c3])))))) := by kernel_rfl
theorem Mc {x y:Int}:bu T p8 [11] 60 vq (au vq) ⟨aM 0 [.int .i64 x,.int .i64 y],[],0⟩=
  let c3:List Prop:=[(0:Nat)<1];let c2:Int:=(2:Int)^63;let c1:Rat:=sQ (decide (x<(0:Int))!=decide (y<(0:Int))) x.natAbs y.natAbs;some (aa.fork (y==(0:Int)) (aa.ag c3 (aa.ag c3 (aa.leaf ah.ret [agg [AV.bool false,mag 0,mag 0],int IntKind.i64 (3:Int)]))) (aa.ag [-c2≤x,x<c2] (aa.ag [-c2≤y,y<c2] (aa.ag ((nl x.natAbs<2^38)::(nl y.natAbs<2^38)::(y.natAbs≠0)::c3) (aa.ag c3 (aa.leaf ah.ret [rat c1 (bV c1),int IntKind.i64 (0:Int)])))))):=by kernel_rfl
theorem Uj {x:Int}:bu T p8 [] 60 vO (au vO) ⟨aM 0 [.int .i64 x],[],0⟩=
  some (aa.ag [-(2:Int)^63≤x,x<(2:Int)^63] (aa.ag [(0:Nat)<1] (aa.ag [(0:Nat)<1] (aa.leaf ah.ret [agg [AV.bool (decide (x<(0:Int))),mag x.natAbs,mag 0]])))):=by kernel_rfl
theorem VH {q r:Rat} {n m:Nat}:bu T BZ [] 60 qx (au qx) ⟨aM 0 [.rat q n,.rat r m],[],0⟩=
  let c1:Prop:=0<1;some (aa.ag [c1,c1,n<2^41,m<2^41,c1] (aa.ag [c1] (aa.leaf ah.ret [rat (q+-r) (n+m+1)]))):=by kernel_rfl
theorem Lh {x y:Int}:bu T BZ [] 60 uw (au uw) ⟨aM 0 [.int .i64 x,.int .i64 y],[],0⟩=
  let c2:Prop:=0<1;let c1:Int:=(2:Int)^63;some (aa.ag [-c1≤x,x<c1,-c1≤y,y<c1,c2] (aa.ag [c2,c2] (aa.ag [c2] (aa.leaf ah.ret [rat ((↑x:Rat)/(↑y:Rat)) 64])))):=by kernel_rfl
theorem eV {N n:Nat} (h:N<2^n) (hn:n<2^42):nl N<2^38:=by
 have h1:N<2^(32*(n/32+1)):=Nat.lt_of_lt_of_le h (Nat.pow_le_pow_right (by omega) (by omega))
 have:=cq.2 h1
 omega
section ops
variable {q r:Rat} {n m:Nat}
theorem nE {a b n m:Nat} (ha:a<2^n) (hb:b<2^m):a*b<2^(n+m):=by rw[Nat.pow_add];exact Nat.mul_lt_mul'' ha hb
theorem Dl (hn:n<2^41) (hm':m<2^41) (K:Nat):aB P ou K [.rat q n,.rat r m] [] (aG (.rat (q+r) (n+m+1)) []):=by
 refine gE fun⟨hq,hr,_⟩=>?_
 have hq:Sz q n:=hq
 have hr:Sz r m:=hr
 have d1:=q.den_nz
 have d2:=r.den_nz
 have hz:=hq.add hr
 have a1:nl q.num.natAbs<2^38:=eV hq.1 (by omega)
 have a2:nl q.den<2^38:=eV hq.2 (by omega)
 have b1:nl r.num.natAbs<2^38:=eV hr.1 (by omega)
 have b2:nl r.den<2^38:=eV hr.2 (by omega)
 have x1:=nE hq.1 hr.2
 have x2:=nE hr.1 hq.2
 have m1:nl (q.num.natAbs*r.den)<2^38:=eV x1 (by omega)
 have m2:nl (r.num.natAbs*q.den)<2^38:=eV x2 (by omega)
 have m3:nl (q.den*r.den)<2^38:=eV (nE hq.2 hr.2) (by omega)
 have m4:nl (q.num.natAbs*r.den+r.num.natAbs*q.den)<2^38:=eV (n:=n+m+1) (by rw[Nat.pow_succ];rw[Nat.add_comm m n]at x2;omega) (by omega)
 have hd0:q.den*r.den≠0:=Nat.mul_ne_zero d1 d2
 have hv:q+r=sQ (decide (q<0)) (q.num.natAbs*r.den) (q.den*r.den)+sQ (decide (r<0)) (r.num.natAbs*q.den) (q.den*r.den):=by
  have:=A3 q r (decide (r<0))
  rw[iq r]at this
  exact this
 refine bE hT rV hm Uc rfl (of_decide_eq_true (by kernel_rfl)) rfl 60 NO (fun _=>?_) K []
 generalize q.num.natAbs*r.den=X at*
 generalize r.num.natAbs*q.den=Y at*
 generalize q.den*r.den=D at*
 simp only[aa.all,az,beq_iff_eq,beq_eq_false_iff_ne,ne_eq,decide_eq_true_eq,decide_eq_false_iff_not,xZ]
 have m5:nl (Y-X)<2^38:=Nat.lt_of_le_of_lt (fA (by omega)) m2
 have m6:nl (X-Y)<2^38:=Nat.lt_of_le_of_lt (fA (by omega)) m1
 refine⟨by omega,fun hb=>⟨⟨by omega,by omega⟩,by omega,fj ?_ hz⟩,fun hb=>⟨by omega,fun hb2=>⟨⟨by omega,by omega⟩,by omega,fj ?_ hz⟩,fun hb2=>⟨⟨by omega,by omega,by omega,by omega,by omega,by omega,by omega,by omega⟩,⟨by omega,by omega,by omega,by omega⟩,⟨by omega,by omega⟩,
  fun hs=>⟨⟨by omega,by omega,by omega,m4,m3,hd0,by omega⟩,by omega,fj ?_ hz⟩,fun hs=>⟨⟨by omega,by omega⟩,fun hl=>⟨⟨by omega,by omega⟩,⟨by omega,m5,m3,hd0,by omega⟩,by omega,fj ?_ hz⟩,fun hl=>⟨⟨by omega,by omega⟩,⟨by omega,m6,m3,hd0,by omega⟩,by omega,fj ?_ hz⟩⟩⟩⟩⟩
 ·have h0:q=0:=k8.1 (gm.1 (by omega))
  rw[h0,Rat.zero_add]
 ·have h0:r=0:=k8.1 (gm.1 (by omega))
  rw[h0,Rat.add_zero]
 ·rw[hv,hs,zZ hd0]
 ·rw[hv,yY hd0 hs (by omega)]
 ·rw[hv,Bw hd0 hs (by omega)]
theorem Wq (hn:n<2^41) (hm':m<2^41) (K:Nat):aB P xG K [.rat q n,.rat r m] [] (aG (.rat (q*r) (n+m)) []):=by
 refine gE fun⟨hq,hr,_⟩=>?_
 have hq:Sz q n:=hq
 have hr:Sz r m:=hr
 have d1:=q.den_nz
 have d2:=r.den_nz
 have a1:nl q.num.natAbs<2^38:=eV hq.1 (by omega)
 have a2:nl q.den<2^38:=eV hq.2 (by omega)
 have b1:nl r.num.natAbs<2^38:=eV hr.1 (by omega)
 have b2:nl r.den<2^38:=eV hr.2 (by omega)
 have m1:nl (q.num.natAbs*r.num.natAbs)<2^38:=eV (nE hq.1 hr.1) (by omega)
 have m3:nl (q.den*r.den)<2^38:=eV (nE hq.2 hr.2) (by omega)
 have hv:sQ (decide (q<0)!=decide (r<0)) (q.num.natAbs*r.num.natAbs) (q.den*r.den)=q*r:=by rw[←z9,iq,iq]
 refine bE hT rV hm Tb rfl (of_decide_eq_true (by kernel_rfl)) rfl 60 Nm (fun _=>?_) K []
 simp only[aa.all,az]
 exact⟨⟨by omega,by omega,by omega,by omega,by omega,by omega,by omega,by omega,by omega,by omega,m1,m3,Nat.mul_ne_zero d1 d2,by omega⟩,by omega,fj hv (hq.mul hr)⟩
theorem Sl (hn:n<2^41) (hm':m<2^41) (K:Nat):aB P xj K [.rat q n,.rat r m] [] (aG (.int .i64 (dS q r)) []):=by
 refine gE fun⟨hq,hr,_⟩=>?_
 have hq:Sz q n:=hq
 have hr:Sz r m:=hr
 have a1:nl q.num.natAbs<2^38:=eV hq.1 (by omega)
 have a2:nl q.den<2^38:=eV hq.2 (by omega)
 have b1:nl r.num.natAbs<2^38:=eV hr.1 (by omega)
 have b2:nl r.den<2^38:=eV hr.2 (by omega)
 have m1:nl (q.num.natAbs*r.den)<2^38:=eV (nE hq.1 hr.2) (by omega)
 have m2:nl (r.num.natAbs*q.den)<2^38:=eV (nE hr.1 hq.2) (by omega)
 refine bE hT rV hm Rv rfl (of_decide_eq_true (by kernel_rfl)) rfl 60 JX (fun _=>?_) K []
 simp only[aa.all,az,bne_iff_ne,ne_eq,bne_eq_false_iff_eq]
 refine⟨⟨by omega,by omega⟩,fun hs=>⟨fun hl=>bh ?_,fun hl=>bh ?_⟩,fun hs=>⟨⟨by omega,by omega,by omega,by omega,by omega,by omega,by omega,by omega,by omega,by omega⟩,by omega,fun hc=>bh ?_,fun hc=>bh ?_⟩⟩
 ·rw[xD hs,if_pos (of_decide_eq_true hl)]
 ·rw[xD hs,if_neg (of_decide_eq_false hl)]
 ·rw[kD hs,if_pos (of_decide_eq_true hc),yK]
 ·rw[kD hs,if_neg (of_decide_eq_false hc)]
end ops
theorem FE {x y:Int} (hy:y≠0):sQ (decide (x<0)!=decide (y<0)) x.natAbs y.natAbs=(x:Rat)/(y:Rat):=by
 have h:=Df (x:Rat) (y:Rat) (by simpa using hy)
 have c:∀{z:Int},decide ((z:Rat)<0)=decide (z<0):=fun {z}=>by rw[decide_eq_decide,fW,Rat.num_intCast]
 rw[c,c,Rat.num_intCast,Rat.num_intCast,Rat.den_intCast,Rat.den_intCast,Nat.mul_one,Nat.one_mul]at h
 exact h
theorem F2 {x y:Int} (h1:-2^63≤x) (h2:x<2^63) (h3:-2^63≤y) (h4:y<2^63) (hy:y≠0):Sz ((x:Rat)/(y:Rat)) 64:=by
 rw[←FE hy];exact Ar (by omega) (by omega) (by omega)
theorem Xr {x y:Int} (h1:-2^63≤x) (h2:x<2^63) (h3:-2^63≤y) (h4:y<2^63) (K:Nat):aB P tf K [.int .i64 x,.int .i64 y] [] (aG (.tuple [.rat ((x:Rat)/(y:Rat)) 64,.int .i64 (if y=0 then 3 else 0)]) []):=by
 refine bE hT rV hm II rfl (of_decide_eq_true (by kernel_rfl)) rfl 60 Mc (fun _=>?_) K []
 simp only[aa.all,az,beq_iff_eq,beq_eq_false_iff_ne,ne_eq]
 refine⟨fun hb=>⟨by omega,by omega,?_,bh (by rw[if_pos hb]),trivial⟩,fun hb=>⟨⟨h1,h2⟩,⟨h3,h4⟩,⟨eV (n:=64) (by omega) (by omega),eV (n:=64) (by omega) (by omega),by omega,by omega⟩,by omega,fj (FE hb) (F2 h1 h2 h3 h4 hb),bh (by rw[if_neg hb]),trivial⟩⟩
 rw[hb,show((x:Rat)/((0:Int):Rat))=0 by rw[Rat.intCast_zero,Rat.div_def,Rat.inv_zero,Rat.mul_zero]]
 exact jH
theorem Fb {n:Int} (h1:-2^63≤n) (h2:n<2^63) (K:Nat):aB P oC K [.int .i64 n] [] (aG (.rat (n:Rat) (max 1 (aY n.natAbs))) []):=by
 refine bE hT rV hm LF rfl (of_decide_eq_true (by kernel_rfl)) rfl 60 Uj (fun _=>?_) K []
 simp only[aa.all,az]
 refine⟨⟨h1,h2⟩,by omega,by omega,nL Em ?_ (by rw[Rat.num_intCast]) (by rw[Rat.den_intCast,if_pos rfl])⟩
 rw[decide_eq_decide,fW,Rat.num_intCast]
theorem M8:∀K args pre r,E4 K args pre=some r→aB P tf K args pre r:=by
 refine bL fun K args r hk hs _=>?_
 split at hs
 ·simp only[Option.some.injEq]at hs
  subst hs
  exact fun need=>Xr need.1 need.2.1 need.2.2.1 need.2.2.2 K trivial
 ·simp at hs
theorem Kx:∀K args pre r,G8 K args pre=some r→aB P ou K args pre r:=by
 refine bL fun K args r hk hs _=>?_
 split at hs
 ·simp only[Option.some.injEq]at hs
  subst hs
  exact fun need=>Dl need.1 need.2 K trivial
 ·simp at hs
theorem EU:bp P BZ:=aK Kx (aK DE (aK M8 br))
theorem Xe {q r:Rat} {n m:Nat} (hn:n<2^41) (hm':m<2^41) (K:Nat):aB P wQ K [.rat q n,.rat r m] [] (aG (.rat (q-r) (n+m+1)) []):=by
 refine bE hT EU hm TL rfl (of_decide_eq_true (by kernel_rfl)) rfl 60 VH (fun _=>?_) K []
 simp only[aa.all,az]
 exact⟨⟨by omega,by omega,hn,hm',by omega⟩,by omega,cD (by rw[Rat.sub_eq_add_neg])⟩
theorem L4 {x y:Int} (h1:-2^63≤x) (h2:x<2^63) (h3:-2^63≤y) (h4:y<2^63) (K:Nat):aB P pF K [.int .i64 x,.int .i64 y] [] (aG (.rat ((x:Rat)/(y:Rat)) 64) []):=by
 refine bE hT EU hm Wm rfl (of_decide_eq_true (by kernel_rfl)) rfl 60 Lh (fun _=>?_) K []
 simp only[aa.all,az]
 exact⟨⟨h1,h2,h3,h4,by omega⟩,⟨by omega,by omega⟩,by omega,.refl _⟩
def GH:Spec:=bq fun l=>match l with
 |[.int .i64 n]=>some (aG (.rat (n:Rat) (max 1 (aY n.natAbs))) [-2^63≤n,n<2^63])
 |_=>none
theorem OI:∀K args pre r,GH K args pre=some r→aB P oC K args pre r:=by
 refine bL fun K args r hk hs _=>?_
 split at hs
 ·simp only[Option.some.injEq]at hs
  subst hs
  exact fun need=>Fb need.1 need.2 K trivial
 ·simp at hs
def B1:Spec:=bq fun l=>match l with
 |[.int .i64 x,.int .i64 y]=>some (aG (.rat ((x:Rat)/(y:Rat)) 64) [-2^63≤x,x<2^63,-2^63≤y,y<2^63])
 |_=>none
theorem Fs:∀K args pre r,B1 K args pre=some r→aB P pF K args pre r:=by
 refine bL fun K args r hk hs _=>?_
 split at hs
 ·simp only[Option.some.injEq]at hs
  subst hs
  exact fun need=>L4 need.1 need.2.1 need.2.2.1 need.2.2.2 K trivial
 ·simp at hs
end Go.Am.B
