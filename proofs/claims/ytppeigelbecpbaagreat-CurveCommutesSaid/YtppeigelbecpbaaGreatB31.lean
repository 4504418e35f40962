/- ref02: Add, Sub, Mul, Cmp, Make, Frac, Int. -/
import Derived.Test.YtppeigelbecpbaaGreatB30
set_option linter.unusedVariables false
namespace Go.Am.B
open Go Go.Am.N AV
theorem S3:aP P qH yz (au yz):=aQ Xh (by kernel_rfl) (by kernel_rfl) (by kernel_rfl)
theorem ahu:aP P z7 xQ (au xQ):=aQ akB (by kernel_rfl) (by kernel_rfl) (by kernel_rfl)
theorem aaJ:aP P wU yQ (au yQ):=aQ acy (by kernel_rfl) (by kernel_rfl) (by kernel_rfl)
theorem S2:aP P AM zu (au zu):=aQ ak9 (by kernel_rfl) (by kernel_rfl) (by kernel_rfl)
theorem X2:aP P xW A6 (au A6):=aQ akz (by kernel_rfl) (by kernel_rfl) (by kernel_rfl)
theorem SX:aP P oT AL (au AL):=aQ YK (by kernel_rfl) (by kernel_rfl) (by kernel_rfl)
theorem ald:aP P od xe (au xe):=aQ W7 (by kernel_rfl) (by kernel_rfl) (by kernel_rfl)
def tQ:aR:=[(zh,PN),(uR,Io),(Au,Kp),(AB,KJ),(pZ,y6),(zX,Oe),(rS,Pg),(ua,Ed),(zL,Qf)]
def MT:Spec:=bC fun l=>match l with
 |[.int .i64 x,.int .i64 y]=>some (aK (.tuple [.rat ((x:Rat)/(y:Rat)) 64,.int .i64 (if y=0 then 3 else 0)]) [-2^63≤x,x<2^63,-2^63≤y,y<2^63])
 |_=>none
def MV:Spec:=bC fun l=>match l with
 |[.rat q n,.rat r m]=>some (aK (.rat (q+r) (n+m+1)) [n<2^41,m<2^41])
 |_=>none
def E1:aR:=[(qH,MV),(ua,Ed),(xW,MT)]
theorem Ad:aY P tQ:=aG ajM (aG I9 (aG air (aG Z6 (aG Co (aG ajm (aG WQ (aG NO (aG ab1 bh))))))))
theorem TC {q r:Rat} {n m:Nat}:bF T tQ [15,20,41,52] 60 yz (au yz) ⟨aN 0 [.rat q n,.rat r m],[],0⟩=
  let c10:Bool:=decide (r<0);let c9:Nat:=2^38;let c8:Nat:=q.den*r.den;let c7:Bool:=decide (q<0);let c6:Nat:=2^39;let c5:Nat:=2^40;let c3:Nat:=q.num.natAbs*r.den;let c2:Nat:=r.num.natAbs*q.den;let c1:Prop:=0<1;let c4:List Prop:=[nl c8<c9,c8≠0,c1];some (aa.ag [c1] (aa.fork ((↑(nl q.num.natAbs):Int)==(0:Int)) (aa.ag [c1,c1] (aa.ag [c1] (aa.leaf aj.ret [rat r m]))) (aa.ag [c1] (aa.fork ((↑(nl r.num.natAbs):Int)==(0:Int)) (aa.ag [c1,c1] (aa.ag [c1] (aa.leaf aj.ret [rat q n]))) (aa.ag [c1,c1,nl q.num.natAbs<c6,nl r.den<c6,c1,c1,nl r.num.natAbs<c6,nl q.den<c6] (aa.ag [c1,c1,nl q.den<c6,nl r.den<c6] (aa.ag [c1,c1] (aa.fork (c7==c10) (aa.ag (c1::(nl c3<c5)::(nl c2<c5)::(nl (c3+c2)<c9)::c4) (aa.ag [c1] (aa.leaf aj.ret [rat (sQ c7 (c3+c2) c8) (ct (sQ c7 (c3+c2) c8))]))) (aa.ag [nl c3<c5,nl c2<c5] (aa.fork (decide (cA c3 c2<(0:Int))) (aa.ag [nl c2<c5,nl c3<c5] (aa.ag (c1::(nl (c2-c3)<c9)::c4) (aa.ag [c1] (aa.leaf aj.ret [rat (sQ c10 (c2-c3) c8) (ct (sQ c10 (c2-c3) c8))])))) (aa.ag [nl c3<c5,nl c2<c5] (aa.ag (c1::(nl (c3-c2)<c9)::c4) (aa.ag [c1] (aa.leaf aj.ret [rat (sQ c7 (c3-c2) c8) (ct (sQ c7 (c3-c2) c8))])))))))))))))):=by kernel_rfl
theorem SI {q r:Rat} {n m:Nat}:bF T tQ [] 60 yQ (au yQ) ⟨aN 0 [.rat q n,.rat r m],[],0⟩=
  let c4:Nat:=q.num.natAbs*r.num.natAbs;let c3:Nat:=2^39;let c1:Prop:=0<1;let c2:Rat:=sQ (decide (q<0)!=decide (r<0)) c4 (q.den*r.den);some (aa.ag [c1,c1,c1,c1,nl q.num.natAbs<c3,nl r.num.natAbs<c3,c1,c1,nl q.den<c3,nl r.den<c3,nl c4<2^38,nl (q.den*r.den)<2^38,q.den*r.den≠0,c1] (aa.ag [c1] (aa.leaf aj.ret [rat c2 (ct c2)]))):=by kernel_rfl
theorem ab2 {q r:Rat} {n m:Nat}:bF T tQ [14,17,30] 60 zu (au zu) ⟨aN 0 [.rat q n,.rat r m],[],0⟩=
  let c3 : Int := cA (q.num.natAbs * r.den) (r.num.natAbs * q.den); let c2 : Nat := 2 ^ 39; let c1 : Prop := 0 < 1; some (aa.ag [c1, c1] (aa.fork (eG q != eG r) (aa.fork (decide (eG q < eG r)) (aa.leaf aj.ret [int IntKind.i64 (-1 : Int)]) (aa.leaf aj.ret [int IntKind.i64 (1 : Int)])) (aa.ag [c1, c1, nl q.num.natAbs < c2, nl r.den < c2, c1, c1, nl r.num.natAbs < c2, nl q.den < c2, nl (q.num.natAbs * r.den) < 2 ^ 40, nl (r.num.natAbs * q.den) < 2 ^ 40] (aa.ag [c1] (aa.fork (decide (q < 0)) (aa.leaf aj.ret [int IntKind.i64 (IntKind.i64.wrap ((0 : Int) - c3))]) (aa.leaf aj.ret [int IntKind.i64 c3])))))) := by kernel_rfl
theorem UY {x y:Int}:bF T tQ [11] 60 A6 (au A6) ⟨aN 0 [.int .i64 x,.int .i64 y],[],0⟩=
  let c3:List Prop:=[(0:Nat)<1];let c2:Int:=(2:Int)^63;let c1:Rat:=sQ (decide (x<(0:Int))!=decide (y<(0:Int))) x.natAbs y.natAbs;some (aa.fork (y==(0:Int)) (aa.ag c3 (aa.ag c3 (aa.leaf aj.ret [agg [AV.bool false,mag 0,mag 0],int IntKind.i64 (3:Int)]))) (aa.ag [-c2≤x,x<c2] (aa.ag [-c2≤y,y<c2] (aa.ag ((nl x.natAbs<2^38)::(nl y.natAbs<2^38)::(y.natAbs≠0)::c3) (aa.ag c3 (aa.leaf aj.ret [rat c1 (ct c1),int IntKind.i64 (0:Int)])))))):=by kernel_rfl
theorem adl {x:Int}:bF T tQ [] 60 xe (au xe) ⟨aN 0 [.int .i64 x],[],0⟩=
  some (aa.ag [-(2:Int)^63≤x,x<(2:Int)^63] (aa.ag [(0:Nat)<1] (aa.ag [(0:Nat)<1] (aa.leaf aj.ret [agg [AV.bool (decide (x<(0:Int))),mag x.natAbs,mag 0]])))):=by kernel_rfl
theorem ahE {q r:Rat} {n m:Nat}:bF T E1 [] 60 xQ (au xQ) ⟨aN 0 [.rat q n,.rat r m],[],0⟩=
  let c1:Prop:=0<1;some (aa.ag [c1,c1,n<2^41,m<2^41,c1] (aa.ag [c1] (aa.leaf aj.ret [rat (q+-r) (n+m+1)]))):=by kernel_rfl
theorem ads {x y:Int}:bF T E1 [] 60 AL (au AL) ⟨aN 0 [.int .i64 x,.int .i64 y],[],0⟩=
  let c2:Prop:=0<1;let c1:Int:=(2:Int)^63;some (aa.ag [-c1≤x,x<c1,-c1≤y,y<c1,c2] (aa.ag [c2,c2] (aa.ag [c2] (aa.leaf aj.ret [rat ((↑x:Rat)/(↑y:Rat)) 64])))):=by kernel_rfl
theorem gh {N n:Nat} (h:N<2^n) (hn:n<2^42):nl N<2^38:=by
 have h1:N<2^(32*(n/32+1)):=Nat.lt_of_lt_of_le h (Nat.pow_le_pow_right (by omega) (by omega))
 have:=cT.2 h1
 omega
section ops
variable {q r:Rat} {n m:Nat}
theorem qx {a b n m:Nat} (ha:a<2^n) (hb:b<2^m):a*b<2^(n+m):=by rw[Nat.pow_add];exact Nat.mul_lt_mul'' ha hb
theorem Hs (hn:n<2^41) (hm':m<2^41) (K:Nat):aA P qH K [.rat q n,.rat r m] [] (aK (.rat (q+r) (n+m+1)) []):=by
 refine jm fun⟨hq,hr,_⟩=>?_
 have hq:Sz q n:=hq
 have hr:Sz r m:=hr
 have d1:=q.den_nz
 have d2:=r.den_nz
 have hz:=hq.add hr
 have a1:nl q.num.natAbs<2^38:=gh hq.1 (by omega)
 have a2:nl q.den<2^38:=gh hq.2 (by omega)
 have b1:nl r.num.natAbs<2^38:=gh hr.1 (by omega)
 have b2:nl r.den<2^38:=gh hr.2 (by omega)
 have x1:=qx hq.1 hr.2
 have x2:=qx hr.1 hq.2
 have m1:nl (q.num.natAbs*r.den)<2^38:=gh x1 (by omega)
 have m2:nl (r.num.natAbs*q.den)<2^38:=gh x2 (by omega)
 have m3:nl (q.den*r.den)<2^38:=gh (qx hq.2 hr.2) (by omega)
 have m4:nl (q.num.natAbs*r.den+r.num.natAbs*q.den)<2^38:=gh (n:=n+m+1) (by rw[Nat.pow_succ];rw[Nat.add_comm m n]at x2;omega) (by omega)
 have hd0:q.den*r.den≠0:=Nat.mul_ne_zero d1 d2
 have hv:q+r=sQ (decide (q<0)) (q.num.natAbs*r.den) (q.den*r.den)+sQ (decide (r<0)) (r.num.natAbs*q.den) (q.den*r.den):=by
  have:=Hv q r (decide (r<0))
  rw[jU r]at this
  exact this
 refine bJ hT Ad hm S3 rfl (of_decide_eq_true (by kernel_rfl)) rfl 60 TC (fun _=>?_) K []
 generalize q.num.natAbs*r.den=X at*
 generalize r.num.natAbs*q.den=Y at*
 generalize q.den*r.den=D at*
 simp only[aa.all,ax,beq_iff_eq,beq_eq_false_iff_ne,ne_eq,decide_eq_true_eq,decide_eq_false_iff_not,B6]
 have m5:nl (Y-X)<2^38:=Nat.lt_of_le_of_lt (gE (by omega)) m2
 have m6:nl (X-Y)<2^38:=Nat.lt_of_le_of_lt (gE (by omega)) m1
 refine⟨by omega,fun hb=>⟨⟨by omega,by omega⟩,by omega,fZ ?_ hz⟩,fun hb=>⟨by omega,fun hb2=>⟨⟨by omega,by omega⟩,by omega,fZ ?_ hz⟩,fun hb2=>⟨⟨by omega,by omega,by omega,by omega,by omega,by omega,by omega,by omega⟩,⟨by omega,by omega,by omega,by omega⟩,⟨by omega,by omega⟩,
  fun hs=>⟨⟨by omega,by omega,by omega,m4,m3,hd0,by omega⟩,by omega,fZ ?_ hz⟩,fun hs=>⟨⟨by omega,by omega⟩,fun hl=>⟨⟨by omega,by omega⟩,⟨by omega,m5,m3,hd0,by omega⟩,by omega,fZ ?_ hz⟩,fun hl=>⟨⟨by omega,by omega⟩,⟨by omega,m6,m3,hd0,by omega⟩,by omega,fZ ?_ hz⟩⟩⟩⟩⟩
 ·have h0:q=0:=pM.1 (jd.1 (by omega))
  rw[h0,Rat.zero_add]
 ·have h0:r=0:=pM.1 (jd.1 (by omega))
  rw[h0,Rat.add_zero]
 ·rw[hv,hs,FQ hd0]
 ·rw[hv,GL hd0 hs (by omega)]
 ·rw[hv,Hl hd0 hs (by omega)]
theorem QO (hn:n<2^41) (hm':m<2^41) (K:Nat):aA P wU K [.rat q n,.rat r m] [] (aK (.rat (q*r) (n+m)) []):=by
 refine jm fun⟨hq,hr,_⟩=>?_
 have hq:Sz q n:=hq
 have hr:Sz r m:=hr
 have d1:=q.den_nz
 have d2:=r.den_nz
 have a1:nl q.num.natAbs<2^38:=gh hq.1 (by omega)
 have a2:nl q.den<2^38:=gh hq.2 (by omega)
 have b1:nl r.num.natAbs<2^38:=gh hr.1 (by omega)
 have b2:nl r.den<2^38:=gh hr.2 (by omega)
 have m1:nl (q.num.natAbs*r.num.natAbs)<2^38:=gh (qx hq.1 hr.1) (by omega)
 have m3:nl (q.den*r.den)<2^38:=gh (qx hq.2 hr.2) (by omega)
 have hv:sQ (decide (q<0)!=decide (r<0)) (q.num.natAbs*r.num.natAbs) (q.den*r.den)=q*r:=by rw[←Fz,jU,jU]
 refine bJ hT Ad hm aaJ rfl (of_decide_eq_true (by kernel_rfl)) rfl 60 SI (fun _=>?_) K []
 simp only[aa.all,ax]
 exact⟨⟨by omega,by omega,by omega,by omega,by omega,by omega,by omega,by omega,by omega,by omega,m1,m3,Nat.mul_ne_zero d1 d2,by omega⟩,by omega,fZ hv (hq.mul hr)⟩
theorem M9 (hn:n<2^41) (hm':m<2^41) (K:Nat):aA P AM K [.rat q n,.rat r m] [] (aK (.int .i64 (fc q r)) []):=by
 refine jm fun⟨hq,hr,_⟩=>?_
 have hq:Sz q n:=hq
 have hr:Sz r m:=hr
 have a1:nl q.num.natAbs<2^38:=gh hq.1 (by omega)
 have a2:nl q.den<2^38:=gh hq.2 (by omega)
 have b1:nl r.num.natAbs<2^38:=gh hr.1 (by omega)
 have b2:nl r.den<2^38:=gh hr.2 (by omega)
 have m1:nl (q.num.natAbs*r.den)<2^38:=gh (qx hq.1 hr.2) (by omega)
 have m2:nl (r.num.natAbs*q.den)<2^38:=gh (qx hr.1 hq.2) (by omega)
 refine bJ hT Ad hm S2 rfl (of_decide_eq_true (by kernel_rfl)) rfl 60 ab2 (fun _=>?_) K []
 simp only[aa.all,ax,bne_iff_ne,ne_eq,bne_eq_false_iff_eq]
 refine⟨⟨by omega,by omega⟩,fun hs=>⟨fun hl=>bw ?_,fun hl=>bw ?_⟩,fun hs=>⟨⟨by omega,by omega,by omega,by omega,by omega,by omega,by omega,by omega,by omega,by omega⟩,by omega,fun hc=>bw ?_,fun hc=>bw ?_⟩⟩
 ·rw[Br hs,if_pos (of_decide_eq_true hl)]
 ·rw[Br hs,if_neg (of_decide_eq_false hl)]
 ·rw[nD hs,if_pos (of_decide_eq_true hc),Bv]
 ·rw[nD hs,if_neg (of_decide_eq_false hc)]
end ops
theorem GZ {x y:Int} (hy:y≠0):sQ (decide (x<0)!=decide (y<0)) x.natAbs y.natAbs=(x:Rat)/(y:Rat):=by
 have h:=Mi (x:Rat) (y:Rat) (by simpa using hy)
 have c:∀{z:Int},decide ((z:Rat)<0)=decide (z<0):=fun {z}=>by rw[decide_eq_decide,iB,Rat.num_intCast]
 rw[c,c,Rat.num_intCast,Rat.num_intCast,Rat.den_intCast,Rat.den_intCast,Nat.mul_one,Nat.one_mul]at h
 exact h
theorem Ir {x y:Int} (h1:-2^63≤x) (h2:x<2^63) (h3:-2^63≤y) (h4:y<2^63) (hy:y≠0):Sz ((x:Rat)/(y:Rat)) 64:=by
 rw[←GZ hy];exact HJ (by omega) (by omega) (by omega)
theorem Vn {x y:Int} (h1:-2^63≤x) (h2:x<2^63) (h3:-2^63≤y) (h4:y<2^63) (K:Nat):aA P xW K [.int .i64 x,.int .i64 y] [] (aK (.tuple [.rat ((x:Rat)/(y:Rat)) 64,.int .i64 (if y=0 then 3 else 0)]) []):=by
 refine bJ hT Ad hm X2 rfl (of_decide_eq_true (by kernel_rfl)) rfl 60 UY (fun _=>?_) K []
 simp only[aa.all,ax,beq_iff_eq,beq_eq_false_iff_ne,ne_eq]
 refine⟨fun hb=>⟨by omega,by omega,?_,bw (by rw[if_pos hb]),trivial⟩,fun hb=>⟨⟨h1,h2⟩,⟨h3,h4⟩,⟨gh (n:=64) (by omega) (by omega),gh (n:=64) (by omega) (by omega),by omega,by omega⟩,by omega,fZ (GZ hb) (Ir h1 h2 h3 h4 hb),bw (by rw[if_neg hb]),trivial⟩⟩
 rw[hb,show((x:Rat)/((0:Int):Rat))=0 by rw[Rat.intCast_zero,Rat.div_def,Rat.inv_zero,Rat.mul_zero]]
 exact lH
theorem JB {n:Int} (h1:-2^63≤n) (h2:n<2^63) (K:Nat):aA P od K [.int .i64 n] [] (aK (.rat (n:Rat) (max 1 (br n.natAbs))) []):=by
 refine bJ hT Ad hm ald rfl (of_decide_eq_true (by kernel_rfl)) rfl 60 adl (fun _=>?_) K []
 simp only[aa.all,ax]
 refine⟨⟨h1,h2⟩,by omega,by omega,rI Iw ?_ (by rw[Rat.num_intCast]) (by rw[Rat.den_intCast,if_pos rfl])⟩
 rw[decide_eq_decide,iB,Rat.num_intCast]
theorem TY:∀K args pre r,MT K args pre=some r→aA P xW K args pre r:=by
 refine bW fun K args r hk hs _=>?_
 split at hs
 ·simp only[Option.some.injEq]at hs
  subst hs
  exact fun need=>Vn need.1 need.2.1 need.2.2.1 need.2.2.2 K trivial
 ·simp at hs
theorem Xt:∀K args pre r,MV K args pre=some r→aA P qH K args pre r:=by
 refine bW fun K args r hk hs _=>?_
 split at hs
 ·simp only[Option.some.injEq]at hs
  subst hs
  exact fun need=>Hs need.1 need.2 K trivial
 ·simp at hs
theorem Oo:aY P E1:=aG Xt (aG NO (aG TY bh))
theorem Ra {q r:Rat} {n m:Nat} (hn:n<2^41) (hm':m<2^41) (K:Nat):aA P z7 K [.rat q n,.rat r m] [] (aK (.rat (q-r) (n+m+1)) []):=by
 refine bJ hT Oo hm ahu rfl (of_decide_eq_true (by kernel_rfl)) rfl 60 ahE (fun _=>?_) K []
 simp only[aa.all,ax]
 exact⟨⟨by omega,by omega,hn,hm',by omega⟩,by omega,dh (by rw[Rat.sub_eq_add_neg])⟩
theorem VH {x y:Int} (h1:-2^63≤x) (h2:x<2^63) (h3:-2^63≤y) (h4:y<2^63) (K:Nat):aA P oT K [.int .i64 x,.int .i64 y] [] (aK (.rat ((x:Rat)/(y:Rat)) 64) []):=by
 refine bJ hT Oo hm SX rfl (of_decide_eq_true (by kernel_rfl)) rfl 60 ads (fun _=>?_) K []
 simp only[aa.all,ax]
 exact⟨⟨h1,h2,h3,h4,by omega⟩,⟨by omega,by omega⟩,by omega,.refl _⟩
def yl:Spec:=bC fun l=>match l with
 |[.int .i64 n]=>some (aK (.rat (n:Rat) (max 1 (br n.natAbs))) [-2^63≤n,n<2^63])
 |_=>none
theorem DF:∀K args pre r,yl K args pre=some r→aA P od K args pre r:=by
 refine bW fun K args r hk hs _=>?_
 split at hs
 ·simp only[Option.some.injEq]at hs
  subst hs
  exact fun need=>JB need.1 need.2 K trivial
 ·simp at hs
def yV:Spec:=bC fun l=>match l with
 |[.int .i64 x,.int .i64 y]=>some (aK (.rat ((x:Rat)/(y:Rat)) 64) [-2^63≤x,x<2^63,-2^63≤y,y<2^63])
 |_=>none
theorem B9:∀K args pre r,yV K args pre=some r→aA P oT K args pre r:=by
 refine bW fun K args r hk hs _=>?_
 split at hs
 ·simp only[Option.some.injEq]at hs
  subst hs
  exact fun need=>VH need.1 need.2.1 need.2.2.1 need.2.2.2 K trivial
 ·simp at hs
end Go.Am.B
