/- ref02: Add, Sub, Mul, Cmp, Make, Frac, Int. -/
import Derived.Test.YtppeigelbecpbaaGreatB30
set_option linter.unusedVariables false
namespace Go.Am.B
open Go Go.Am.N AV
theorem Ts:aO P p4 xU (au xU):=aP XL (by kernel_rfl) (by kernel_rfl) (by kernel_rfl)
theorem Uz:aO P yA Ay (au Ay):=aP W7 (by kernel_rfl) (by kernel_rfl) (by kernel_rfl)
theorem ahQ:aO P wE yy (au yy):=aP SY (by kernel_rfl) (by kernel_rfl) (by kernel_rfl)
theorem T5:aO P vu zg (au zg):=aP VB (by kernel_rfl) (by kernel_rfl) (by kernel_rfl)
theorem aiz:aO P ud vL (au vL):=aP afi (by kernel_rfl) (by kernel_rfl) (by kernel_rfl)
theorem adT:aO P oI vc (au vc):=aP W5 (by kernel_rfl) (by kernel_rfl) (by kernel_rfl)
theorem Sb:aO P lJ wz (au wz):=aP aeK (by kernel_rfl) (by kernel_rfl) (by kernel_rfl)
def pZ:aR:=[(yx,Jk),(tv,Gv),(xP,P0),(Ag,OH),(nJ,uE),(zP,NR),(qP,PU),(rT,EW),(wT,Js)]
def HT:Spec:=bB fun l=>match l with
 |[.int .i64 x,.int .i64 y]=>some (aI (.tuple [.rat ((x:Rat)/(y:Rat)) 64,.int .i64 (if y=0 then 3 else 0)]) [-2^63≤x,x<2^63,-2^63≤y,y<2^63])
 |_=>none
def Ku:Spec:=bB fun l=>match l with
 |[.rat q n,.rat r m]=>some (aI (.rat (q+r) (n+m+1)) [n<2^41,m<2^41])
 |_=>none
def D0:aR:=[(p4,Ku),(rT,EW),(ud,HT)]
theorem tc:aX P pZ:=aJ ab5 (aJ Oz (aJ aew (aJ ajI (aJ C9 (aJ ajb (aJ Ta (aJ Me (aJ aai bn))))))))
theorem Vq {q r:Rat} {n m:Nat}:bC T pZ [15,20,41,52] 60 xU (au xU) ⟨aN 0 [.rat q n,.rat r m],[],0⟩=
  let c10:Bool:=decide (r<0);let c9:Nat:=2^38;let c8:Nat:=q.den*r.den;let c7:Bool:=decide (q<0);let c6:Nat:=2^39;let c5:Nat:=2^40;let c3:Nat:=q.num.natAbs*r.den;let c2:Nat:=r.num.natAbs*q.den;let c1:Prop:=0<1;let c4:List Prop:=[nl c8<c9,c8≠0,c1];some (aa.ag [c1] (aa.fork ((↑(nl q.num.natAbs):Int)==(0:Int)) (aa.ag [c1,c1] (aa.ag [c1] (aa.leaf ak.ret [rat r m]))) (aa.ag [c1] (aa.fork ((↑(nl r.num.natAbs):Int)==(0:Int)) (aa.ag [c1,c1] (aa.ag [c1] (aa.leaf ak.ret [rat q n]))) (aa.ag [c1,c1,nl q.num.natAbs<c6,nl r.den<c6,c1,c1,nl r.num.natAbs<c6,nl q.den<c6] (aa.ag [c1,c1,nl q.den<c6,nl r.den<c6] (aa.ag [c1,c1] (aa.fork (c7==c10) (aa.ag (c1::(nl c3<c5)::(nl c2<c5)::(nl (c3+c2)<c9)::c4) (aa.ag [c1] (aa.leaf ak.ret [rat (sQ c7 (c3+c2) c8) (cq (sQ c7 (c3+c2) c8))]))) (aa.ag [nl c3<c5,nl c2<c5] (aa.fork (decide (cw c3 c2<(0:Int))) (aa.ag [nl c2<c5,nl c3<c5] (aa.ag (c1::(nl (c2-c3)<c9)::c4) (aa.ag [c1] (aa.leaf ak.ret [rat (sQ c10 (c2-c3) c8) (cq (sQ c10 (c2-c3) c8))])))) (aa.ag [nl c3<c5,nl c2<c5] (aa.ag (c1::(nl (c3-c2)<c9)::c4) (aa.ag [c1] (aa.leaf ak.ret [rat (sQ c7 (c3-c2) c8) (cq (sQ c7 (c3-c2) c8))])))))))))))))):=by kernel_rfl
theorem XC {q r:Rat} {n m:Nat}:bC T pZ [] 60 yy (au yy) ⟨aN 0 [.rat q n,.rat r m],[],0⟩=
  let c4:Nat:=q.num.natAbs*r.num.natAbs;let c3:Nat:=2^39;let c1:Prop:=0<1;let c2:Rat:=sQ (decide (q<0)!=decide (r<0)) c4 (q.den*r.den);some (aa.ag [c1,c1,c1,c1,nl q.num.natAbs<c3,nl r.num.natAbs<c3,c1,c1,nl q.den<c3,nl r.den<c3,nl c4<2^38,nl (q.den*r.den)<2^38,q.den*r.den≠0,c1] (aa.ag [c1] (aa.leaf ak.ret [rat c2 (cq c2)]))):=by kernel_rfl
theorem VX {q r:Rat} {n m:Nat}:bC T pZ [14,17,30] 60 zg (au zg) ⟨aN 0 [.rat q n,.rat r m],[],0⟩=
  let c3 : Int := cw (q.num.natAbs * r.den) (r.num.natAbs * q.den); let c2 : Nat := 2 ^ 39; let c1 : Prop := 0 < 1; some (aa.ag [c1, c1] (aa.fork (dS q != dS r) (aa.fork (decide (dS q < dS r)) (aa.leaf ak.ret [int IntKind.i64 (-1 : Int)]) (aa.leaf ak.ret [int IntKind.i64 (1 : Int)])) (aa.ag [c1, c1, nl q.num.natAbs < c2, nl r.den < c2, c1, c1, nl r.num.natAbs < c2, nl q.den < c2, nl (q.num.natAbs * r.den) < 2 ^ 40, nl (r.num.natAbs * q.den) < 2 ^ 40] (aa.ag [c1] (aa.fork (decide (q < 0)) (aa.leaf ak.ret [int IntKind.i64 (IntKind.i64.wrap ((0 : Int) - c3))]) (aa.leaf ak.ret [int IntKind.i64 c3])))))) := by kernel_rfl
theorem RX {x y:Int}:bC T pZ [11] 60 vL (au vL) ⟨aN 0 [.int .i64 x,.int .i64 y],[],0⟩=
  let c3:List Prop:=[(0:Nat)<1];let c2:Int:=(2:Int)^63;let c1:Rat:=sQ (decide (x<(0:Int))!=decide (y<(0:Int))) x.natAbs y.natAbs;some (aa.fork (y==(0:Int)) (aa.ag c3 (aa.ag c3 (aa.leaf ak.ret [agg [AV.bool false,mag 0,mag 0],int IntKind.i64 (3:Int)]))) (aa.ag [-c2≤x,x<c2] (aa.ag [-c2≤y,y<c2] (aa.ag ((nl x.natAbs<2^38)::(nl y.natAbs<2^38)::(y.natAbs≠0)::c3) (aa.ag c3 (aa.leaf ak.ret [rat c1 (cq c1),int IntKind.i64 (0:Int)])))))):=by kernel_rfl
theorem agE {x:Int}:bC T pZ [] 60 wz (au wz) ⟨aN 0 [.int .i64 x],[],0⟩=
  some (aa.ag [-(2:Int)^63≤x,x<(2:Int)^63] (aa.ag [(0:Nat)<1] (aa.ag [(0:Nat)<1] (aa.leaf ak.ret [agg [AV.bool (decide (x<(0:Int))),mag x.natAbs,mag 0]])))):=by kernel_rfl
theorem Y6 {q r:Rat} {n m:Nat}:bC T D0 [] 60 Ay (au Ay) ⟨aN 0 [.rat q n,.rat r m],[],0⟩=
  let c1:Prop:=0<1;some (aa.ag [c1,c1,n<2^41,m<2^41,c1] (aa.ag [c1] (aa.leaf ak.ret [rat (q+-r) (n+m+1)]))):=by kernel_rfl
theorem WR {x y:Int}:bC T D0 [] 60 vc (au vc) ⟨aN 0 [.int .i64 x,.int .i64 y],[],0⟩=
  let c2:Prop:=0<1;let c1:Int:=(2:Int)^63;some (aa.ag [-c1≤x,x<c1,-c1≤y,y<c1,c2] (aa.ag [c2,c2] (aa.ag [c2] (aa.leaf ak.ret [rat ((↑x:Rat)/(↑y:Rat)) 64])))):=by kernel_rfl
theorem eG {N n:Nat} (h:N<2^n) (hn:n<2^42):nl N<2^38:=by
 have h1:N<2^(32*(n/32+1)):=Nat.lt_of_lt_of_le h (Nat.pow_le_pow_right (by omega) (by omega))
 have:=cL.2 h1
 omega
section ops
variable {q r:Rat} {n m:Nat}
theorem m9 {a b n m:Nat} (ha:a<2^n) (hb:b<2^m):a*b<2^(n+m):=by rw[Nat.pow_add];exact Nat.mul_lt_mul'' ha hb
theorem Gg (hn:n<2^41) (hm':m<2^41) (K:Nat):aA P p4 K [.rat q n,.rat r m] [] (aI (.rat (q+r) (n+m+1)) []):=by
 refine iA fun⟨hq,hr,_⟩=>?_
 have hq:Sz q n:=hq
 have hr:Sz r m:=hr
 have d1:=q.den_nz
 have d2:=r.den_nz
 have hz:=hq.add hr
 have a1:nl q.num.natAbs<2^38:=eG hq.1 (by omega)
 have a2:nl q.den<2^38:=eG hq.2 (by omega)
 have b1:nl r.num.natAbs<2^38:=eG hr.1 (by omega)
 have b2:nl r.den<2^38:=eG hr.2 (by omega)
 have x1:=m9 hq.1 hr.2
 have x2:=m9 hr.1 hq.2
 have m1:nl (q.num.natAbs*r.den)<2^38:=eG x1 (by omega)
 have m2:nl (r.num.natAbs*q.den)<2^38:=eG x2 (by omega)
 have m3:nl (q.den*r.den)<2^38:=eG (m9 hq.2 hr.2) (by omega)
 have m4:nl (q.num.natAbs*r.den+r.num.natAbs*q.den)<2^38:=eG (n:=n+m+1) (by rw[Nat.pow_succ];rw[Nat.add_comm m n]at x2;omega) (by omega)
 have hd0:q.den*r.den≠0:=Nat.mul_ne_zero d1 d2
 have hv:q+r=sQ (decide (q<0)) (q.num.natAbs*r.den) (q.den*r.den)+sQ (decide (r<0)) (r.num.natAbs*q.den) (q.den*r.den):=by
  have:=Fv q r (decide (r<0))
  rw[jC r]at this
  exact this
 refine bF hT tc hm Ts rfl (of_decide_eq_true (by kernel_rfl)) rfl 60 Vq (fun _=>?_) K []
 generalize q.num.natAbs*r.den=X at*
 generalize r.num.natAbs*q.den=Y at*
 generalize q.den*r.den=D at*
 simp only[aa.all,ax,beq_iff_eq,beq_eq_false_iff_ne,ne_eq,decide_eq_true_eq,decide_eq_false_iff_not,BG]
 have m5:nl (Y-X)<2^38:=Nat.lt_of_le_of_lt (gd (by omega)) m2
 have m6:nl (X-Y)<2^38:=Nat.lt_of_le_of_lt (gd (by omega)) m1
 refine⟨by omega,fun hb=>⟨⟨by omega,by omega⟩,by omega,fI ?_ hz⟩,fun hb=>⟨by omega,fun hb2=>⟨⟨by omega,by omega⟩,by omega,fI ?_ hz⟩,fun hb2=>⟨⟨by omega,by omega,by omega,by omega,by omega,by omega,by omega,by omega⟩,⟨by omega,by omega,by omega,by omega⟩,⟨by omega,by omega⟩,
  fun hs=>⟨⟨by omega,by omega,by omega,m4,m3,hd0,by omega⟩,by omega,fI ?_ hz⟩,fun hs=>⟨⟨by omega,by omega⟩,fun hl=>⟨⟨by omega,by omega⟩,⟨by omega,m5,m3,hd0,by omega⟩,by omega,fI ?_ hz⟩,fun hl=>⟨⟨by omega,by omega⟩,⟨by omega,m6,m3,hd0,by omega⟩,by omega,fI ?_ hz⟩⟩⟩⟩⟩
 ·have h0:q=0:=lM.1 (iy.1 (by omega))
  rw[h0,Rat.zero_add]
 ·have h0:r=0:=lM.1 (iy.1 (by omega))
  rw[h0,Rat.add_zero]
 ·rw[hv,hs,Gr hd0]
 ·rw[hv,FN hd0 hs (by omega)]
 ·rw[hv,FY hd0 hs (by omega)]
theorem Mn (hn:n<2^41) (hm':m<2^41) (K:Nat):aA P wE K [.rat q n,.rat r m] [] (aI (.rat (q*r) (n+m)) []):=by
 refine iA fun⟨hq,hr,_⟩=>?_
 have hq:Sz q n:=hq
 have hr:Sz r m:=hr
 have d1:=q.den_nz
 have d2:=r.den_nz
 have a1:nl q.num.natAbs<2^38:=eG hq.1 (by omega)
 have a2:nl q.den<2^38:=eG hq.2 (by omega)
 have b1:nl r.num.natAbs<2^38:=eG hr.1 (by omega)
 have b2:nl r.den<2^38:=eG hr.2 (by omega)
 have m1:nl (q.num.natAbs*r.num.natAbs)<2^38:=eG (m9 hq.1 hr.1) (by omega)
 have m3:nl (q.den*r.den)<2^38:=eG (m9 hq.2 hr.2) (by omega)
 have hv:sQ (decide (q<0)!=decide (r<0)) (q.num.natAbs*r.num.natAbs) (q.den*r.den)=q*r:=by rw[←E8,jC,jC]
 refine bF hT tc hm ahQ rfl (of_decide_eq_true (by kernel_rfl)) rfl 60 XC (fun _=>?_) K []
 simp only[aa.all,ax]
 exact⟨⟨by omega,by omega,by omega,by omega,by omega,by omega,by omega,by omega,by omega,by omega,m1,m3,Nat.mul_ne_zero d1 d2,by omega⟩,by omega,fI hv (hq.mul hr)⟩
theorem MM (hn:n<2^41) (hm':m<2^41) (K:Nat):aA P vu K [.rat q n,.rat r m] [] (aI (.int .i64 (dZ q r)) []):=by
 refine iA fun⟨hq,hr,_⟩=>?_
 have hq:Sz q n:=hq
 have hr:Sz r m:=hr
 have a1:nl q.num.natAbs<2^38:=eG hq.1 (by omega)
 have a2:nl q.den<2^38:=eG hq.2 (by omega)
 have b1:nl r.num.natAbs<2^38:=eG hr.1 (by omega)
 have b2:nl r.den<2^38:=eG hr.2 (by omega)
 have m1:nl (q.num.natAbs*r.den)<2^38:=eG (m9 hq.1 hr.2) (by omega)
 have m2:nl (r.num.natAbs*q.den)<2^38:=eG (m9 hr.1 hq.2) (by omega)
 refine bF hT tc hm T5 rfl (of_decide_eq_true (by kernel_rfl)) rfl 60 VX (fun _=>?_) K []
 simp only[aa.all,ax,bne_iff_ne,ne_eq,bne_eq_false_iff_eq]
 refine⟨⟨by omega,by omega⟩,fun hs=>⟨fun hl=>bt ?_,fun hl=>bt ?_⟩,fun hs=>⟨⟨by omega,by omega,by omega,by omega,by omega,by omega,by omega,by omega,by omega,by omega⟩,by omega,fun hc=>bt ?_,fun hc=>bt ?_⟩⟩
 ·rw[Cv hs,if_pos (of_decide_eq_true hl)]
 ·rw[Cv hs,if_neg (of_decide_eq_false hl)]
 ·rw[m7 hs,if_pos (of_decide_eq_true hc),Bl]
 ·rw[m7 hs,if_neg (of_decide_eq_false hc)]
end ops
theorem MV {x y:Int} (hy:y≠0):sQ (decide (x<0)!=decide (y<0)) x.natAbs y.natAbs=(x:Rat)/(y:Rat):=by
 have h:=DW (x:Rat) (y:Rat) (by simpa using hy)
 have c:∀{z:Int},decide ((z:Rat)<0)=decide (z<0):=fun {z}=>by rw[decide_eq_decide,g9,Rat.num_intCast]
 rw[c,c,Rat.num_intCast,Rat.num_intCast,Rat.den_intCast,Rat.den_intCast,Nat.mul_one,Nat.one_mul]at h
 exact h
theorem NI {x y:Int} (h1:-2^63≤x) (h2:x<2^63) (h3:-2^63≤y) (h4:y<2^63) (hy:y≠0):Sz ((x:Rat)/(y:Rat)) 64:=by
 rw[←MV hy];exact FR (by omega) (by omega) (by omega)
theorem S4 {x y:Int} (h1:-2^63≤x) (h2:x<2^63) (h3:-2^63≤y) (h4:y<2^63) (K:Nat):aA P ud K [.int .i64 x,.int .i64 y] [] (aI (.tuple [.rat ((x:Rat)/(y:Rat)) 64,.int .i64 (if y=0 then 3 else 0)]) []):=by
 refine bF hT tc hm aiz rfl (of_decide_eq_true (by kernel_rfl)) rfl 60 RX (fun _=>?_) K []
 simp only[aa.all,ax,beq_iff_eq,beq_eq_false_iff_ne,ne_eq]
 refine⟨fun hb=>⟨by omega,by omega,?_,bt (by rw[if_pos hb]),trivial⟩,fun hb=>⟨⟨h1,h2⟩,⟨h3,h4⟩,⟨eG (n:=64) (by omega) (by omega),eG (n:=64) (by omega) (by omega),by omega,by omega⟩,by omega,fI (MV hb) (NI h1 h2 h3 h4 hb),bt (by rw[if_neg hb]),trivial⟩⟩
 rw[hb,show((x:Rat)/((0:Int):Rat))=0 by rw[Rat.intCast_zero,Rat.div_def,Rat.inv_zero,Rat.mul_zero]]
 exact kq
theorem O2 {n:Int} (h1:-2^63≤n) (h2:n<2^63) (K:Nat):aA P lJ K [.int .i64 n] [] (aI (.rat (n:Rat) (max 1 (br n.natAbs))) []):=by
 refine bF hT tc hm Sb rfl (of_decide_eq_true (by kernel_rfl)) rfl 60 agE (fun _=>?_) K []
 simp only[aa.all,ax]
 refine⟨⟨h1,h2⟩,by omega,by omega,pL GL ?_ (by rw[Rat.num_intCast]) (by rw[Rat.den_intCast,if_pos rfl])⟩
 rw[decide_eq_decide,g9,Rat.num_intCast]
theorem agK:∀K args pre r,HT K args pre=some r→aA P ud K args pre r:=by
 refine bS fun K args r hk hs _=>?_
 split at hs
 ·simp only[Option.some.injEq]at hs
  subst hs
  exact fun need=>S4 need.1 need.2.1 need.2.2.1 need.2.2.2 K trivial
 ·simp at hs
theorem aaK:∀K args pre r,Ku K args pre=some r→aA P p4 K args pre r:=by
 refine bS fun K args r hk hs _=>?_
 split at hs
 ·simp only[Option.some.injEq]at hs
  subst hs
  exact fun need=>Gg need.1 need.2 K trivial
 ·simp at hs
theorem JF:aX P D0:=aJ aaK (aJ Me (aJ agK bn))
theorem Lz {q r:Rat} {n m:Nat} (hn:n<2^41) (hm':m<2^41) (K:Nat):aA P yA K [.rat q n,.rat r m] [] (aI (.rat (q-r) (n+m+1)) []):=by
 refine bF hT JF hm Uz rfl (of_decide_eq_true (by kernel_rfl)) rfl 60 Y6 (fun _=>?_) K []
 simp only[aa.all,ax]
 exact⟨⟨by omega,by omega,hn,hm',by omega⟩,by omega,cT (by rw[Rat.sub_eq_add_neg])⟩
theorem agi {x y:Int} (h1:-2^63≤x) (h2:x<2^63) (h3:-2^63≤y) (h4:y<2^63) (K:Nat):aA P oI K [.int .i64 x,.int .i64 y] [] (aI (.rat ((x:Rat)/(y:Rat)) 64) []):=by
 refine bF hT JF hm adT rfl (of_decide_eq_true (by kernel_rfl)) rfl 60 WR (fun _=>?_) K []
 simp only[aa.all,ax]
 exact⟨⟨h1,h2,h3,h4,by omega⟩,⟨by omega,by omega⟩,by omega,.refl _⟩
def tL:Spec:=bB fun l=>match l with
 |[.int .i64 n]=>some (aI (.rat (n:Rat) (max 1 (br n.natAbs))) [-2^63≤n,n<2^63])
 |_=>none
theorem zo:∀K args pre r,tL K args pre=some r→aA P lJ K args pre r:=by
 refine bS fun K args r hk hs _=>?_
 split at hs
 ·simp only[Option.some.injEq]at hs
  subst hs
  exact fun need=>O2 need.1 need.2 K trivial
 ·simp at hs
def yL:Spec:=bB fun l=>match l with
 |[.int .i64 x,.int .i64 y]=>some (aI (.rat ((x:Rat)/(y:Rat)) 64) [-2^63≤x,x<2^63,-2^63≤y,y<2^63])
 |_=>none
theorem A8:∀K args pre r,yL K args pre=some r→aA P oI K args pre r:=by
 refine bS fun K args r hk hs _=>?_
 split at hs
 ·simp only[Option.some.injEq]at hs
  subst hs
  exact fun need=>agi need.1 need.2.1 need.2.2.1 need.2.2.2 K trivial
 ·simp at hs
end Go.Am.B
