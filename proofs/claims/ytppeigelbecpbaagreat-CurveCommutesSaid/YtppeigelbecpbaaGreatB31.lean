/- ref02: Add, Sub, Mul, Cmp, Make, Frac, Int. -/
import Derived.Test.YtppeigelbecpbaaGreatB30
set_option linter.unusedVariables false
namespace Go.Am.B
open Go Go.Am.N AV
theorem ZY:aO P qe zM (au zM):=aQ YU (by kernel_rfl) (by kernel_rfl) (by kernel_rfl)
theorem SF:aO P yP xy (au xy):=aQ YP (by kernel_rfl) (by kernel_rfl) (by kernel_rfl)
theorem agK:aO P yu yd (au yd):=aQ akj (by kernel_rfl) (by kernel_rfl) (by kernel_rfl)
theorem aan:aO P AD xP (au xP):=aQ TL (by kernel_rfl) (by kernel_rfl) (by kernel_rfl)
theorem acd:aO P Bf xK (au xK):=aQ abr (by kernel_rfl) (by kernel_rfl) (by kernel_rfl)
theorem af0:aO P oK Ba (au Ba):=aQ T4 (by kernel_rfl) (by kernel_rfl) (by kernel_rfl)
theorem aia:aO P m9 Ah (au Ah):=aQ acU (by kernel_rfl) (by kernel_rfl) (by kernel_rfl)
def vh:aR:=[(Bh,P3),(tA,FJ),(wT,KS),(vE,L7),(oo,A9),(yO,P1),(qf,PY),(sW,G9),(zg,O9)]
def Ro:Spec:=bC fun l=>match l with
 |[.int .i64 x,.int .i64 y]=>some (aK (.tuple [.rat ((x:Rat)/(y:Rat)) 64,.int .i64 (if y=0 then 3 else 0)]) [-2^63≤x,x<2^63,-2^63≤y,y<2^63])
 |_=>none
def PM:Spec:=bC fun l=>match l with
 |[.rat q n,.rat r m]=>some (aK (.rat (q+r) (n+m+1)) [n<2^41,m<2^41])
 |_=>none
def HV:aR:=[(qe,PM),(sW,G9),(Bf,Ro)]
theorem zC:aY P vh:=aG Vj (aG JV (aG Sm (aG TV (aG Cd (aG alc (aG ajF (aG Oc (aG aaJ bk))))))))
theorem aaV {q r:Rat} {n m:Nat}:bF T vh [15,20,41,52] 60 zM (au zM) ⟨aN 0 [.rat q n,.rat r m],[],0⟩=
  let c10:Bool:=decide (r<0);let c9:Nat:=2^38;let c8:Nat:=q.den*r.den;let c7:Bool:=decide (q<0);let c6:Nat:=2^39;let c5:Nat:=2^40;let c3:Nat:=q.num.natAbs*r.den;let c2:Nat:=r.num.natAbs*q.den;let c1:Prop:=0<1;let c4:List Prop:=[nl c8<c9,c8≠0,c1];some (aa.ag [c1] (aa.fork ((↑(nl q.num.natAbs):Int)==(0:Int)) (aa.ag [c1,c1] (aa.ag [c1] (aa.leaf aj.ret [rat r m]))) (aa.ag [c1] (aa.fork ((↑(nl r.num.natAbs):Int)==(0:Int)) (aa.ag [c1,c1] (aa.ag [c1] (aa.leaf aj.ret [rat q n]))) (aa.ag [c1,c1,nl q.num.natAbs<c6,nl r.den<c6,c1,c1,nl r.num.natAbs<c6,nl q.den<c6] (aa.ag [c1,c1,nl q.den<c6,nl r.den<c6] (aa.ag [c1,c1] (aa.fork (c7==c10) (aa.ag (c1::(nl c3<c5)::(nl c2<c5)::(nl (c3+c2)<c9)::c4) (aa.ag [c1] (aa.leaf aj.ret [rat (sQ c7 (c3+c2) c8) (ct (sQ c7 (c3+c2) c8))]))) (aa.ag [nl c3<c5,nl c2<c5] (aa.fork (decide (cA c3 c2<(0:Int))) (aa.ag [nl c2<c5,nl c3<c5] (aa.ag (c1::(nl (c2-c3)<c9)::c4) (aa.ag [c1] (aa.leaf aj.ret [rat (sQ c10 (c2-c3) c8) (ct (sQ c10 (c2-c3) c8))])))) (aa.ag [nl c3<c5,nl c2<c5] (aa.ag (c1::(nl (c3-c2)<c9)::c4) (aa.ag [c1] (aa.leaf aj.ret [rat (sQ c7 (c3-c2) c8) (ct (sQ c7 (c3-c2) c8))])))))))))))))):=by kernel_rfl
theorem Vx {q r:Rat} {n m:Nat}:bF T vh [] 60 yd (au yd) ⟨aN 0 [.rat q n,.rat r m],[],0⟩=
  let c4:Nat:=q.num.natAbs*r.num.natAbs;let c3:Nat:=2^39;let c1:Prop:=0<1;let c2:Rat:=sQ (decide (q<0)!=decide (r<0)) c4 (q.den*r.den);some (aa.ag [c1,c1,c1,c1,nl q.num.natAbs<c3,nl r.num.natAbs<c3,c1,c1,nl q.den<c3,nl r.den<c3,nl c4<2^38,nl (q.den*r.den)<2^38,q.den*r.den≠0,c1] (aa.ag [c1] (aa.leaf aj.ret [rat c2 (ct c2)]))):=by kernel_rfl
theorem R9 {q r:Rat} {n m:Nat}:bF T vh [14,17,30] 60 xP (au xP) ⟨aN 0 [.rat q n,.rat r m],[],0⟩=
  let c3 : Int := cA (q.num.natAbs * r.den) (r.num.natAbs * q.den); let c2 : Nat := 2 ^ 39; let c1 : Prop := 0 < 1; some (aa.ag [c1, c1] (aa.fork (eG q != eG r) (aa.fork (decide (eG q < eG r)) (aa.leaf aj.ret [int IntKind.i64 (-1 : Int)]) (aa.leaf aj.ret [int IntKind.i64 (1 : Int)])) (aa.ag [c1, c1, nl q.num.natAbs < c2, nl r.den < c2, c1, c1, nl r.num.natAbs < c2, nl q.den < c2, nl (q.num.natAbs * r.den) < 2 ^ 40, nl (r.num.natAbs * q.den) < 2 ^ 40] (aa.ag [c1] (aa.fork (decide (q < 0)) (aa.leaf aj.ret [int IntKind.i64 (IntKind.i64.wrap ((0 : Int) - c3))]) (aa.leaf aj.ret [int IntKind.i64 c3])))))) := by kernel_rfl
theorem abB {x y:Int}:bF T vh [11] 60 xK (au xK) ⟨aN 0 [.int .i64 x,.int .i64 y],[],0⟩=
  let c3:List Prop:=[(0:Nat)<1];let c2:Int:=(2:Int)^63;let c1:Rat:=sQ (decide (x<(0:Int))!=decide (y<(0:Int))) x.natAbs y.natAbs;some (aa.fork (y==(0:Int)) (aa.ag c3 (aa.ag c3 (aa.leaf aj.ret [agg [AV.bool false,mag 0,mag 0],int IntKind.i64 (3:Int)]))) (aa.ag [-c2≤x,x<c2] (aa.ag [-c2≤y,y<c2] (aa.ag ((nl x.natAbs<2^38)::(nl y.natAbs<2^38)::(y.natAbs≠0)::c3) (aa.ag c3 (aa.leaf aj.ret [rat c1 (ct c1),int IntKind.i64 (0:Int)])))))):=by kernel_rfl
theorem U8 {x:Int}:bF T vh [] 60 Ah (au Ah) ⟨aN 0 [.int .i64 x],[],0⟩=
  some (aa.ag [-(2:Int)^63≤x,x<(2:Int)^63] (aa.ag [(0:Nat)<1] (aa.ag [(0:Nat)<1] (aa.leaf aj.ret [agg [AV.bool (decide (x<(0:Int))),mag x.natAbs,mag 0]])))):=by kernel_rfl
theorem alb {q r:Rat} {n m:Nat}:bF T HV [] 60 xy (au xy) ⟨aN 0 [.rat q n,.rat r m],[],0⟩=
  let c1:Prop:=0<1;some (aa.ag [c1,c1,n<2^41,m<2^41,c1] (aa.ag [c1] (aa.leaf aj.ret [rat (q+-r) (n+m+1)]))):=by kernel_rfl
theorem adk {x y:Int}:bF T HV [] 60 Ba (au Ba) ⟨aN 0 [.int .i64 x,.int .i64 y],[],0⟩=
  let c2:Prop:=0<1;let c1:Int:=(2:Int)^63;some (aa.ag [-c1≤x,x<c1,-c1≤y,y<c1,c2] (aa.ag [c2,c2] (aa.ag [c2] (aa.leaf aj.ret [rat ((↑x:Rat)/(↑y:Rat)) 64])))):=by kernel_rfl
theorem gk {N n:Nat} (h:N<2^n) (hn:n<2^42):nl N<2^38:=by
 have h1:N<2^(32*(n/32+1)):=Nat.lt_of_lt_of_le h (Nat.pow_le_pow_right (by omega) (by omega))
 have:=cT.2 h1
 omega
section ops
variable {q r:Rat} {n m:Nat}
theorem q9 {a b n m:Nat} (ha:a<2^n) (hb:b<2^m):a*b<2^(n+m):=by rw[Nat.pow_add];exact Nat.mul_lt_mul'' ha hb
theorem E1 (hn:n<2^41) (hm':m<2^41) (K:Nat):aB P qe K [.rat q n,.rat r m] [] (aK (.rat (q+r) (n+m+1)) []):=by
 refine jj fun⟨hq,hr,_⟩=>?_
 have hq:Sz q n:=hq
 have hr:Sz r m:=hr
 have d1:=q.den_nz
 have d2:=r.den_nz
 have hz:=hq.add hr
 have a1:nl q.num.natAbs<2^38:=gk hq.1 (by omega)
 have a2:nl q.den<2^38:=gk hq.2 (by omega)
 have b1:nl r.num.natAbs<2^38:=gk hr.1 (by omega)
 have b2:nl r.den<2^38:=gk hr.2 (by omega)
 have x1:=q9 hq.1 hr.2
 have x2:=q9 hr.1 hq.2
 have m1:nl (q.num.natAbs*r.den)<2^38:=gk x1 (by omega)
 have m2:nl (r.num.natAbs*q.den)<2^38:=gk x2 (by omega)
 have m3:nl (q.den*r.den)<2^38:=gk (q9 hq.2 hr.2) (by omega)
 have m4:nl (q.num.natAbs*r.den+r.num.natAbs*q.den)<2^38:=gk (n:=n+m+1) (by rw[Nat.pow_succ];rw[Nat.add_comm m n]at x2;omega) (by omega)
 have hd0:q.den*r.den≠0:=Nat.mul_ne_zero d1 d2
 have hv:q+r=sQ (decide (q<0)) (q.num.natAbs*r.den) (q.den*r.den)+sQ (decide (r<0)) (r.num.natAbs*q.den) (q.den*r.den):=by
  have:=G4 q r (decide (r<0))
  rw[ko r]at this
  exact this
 refine bJ hT zC hm ZY rfl (of_decide_eq_true (by kernel_rfl)) rfl 60 aaV (fun _=>?_) K []
 generalize q.num.natAbs*r.den=X at*
 generalize r.num.natAbs*q.den=Y at*
 generalize q.den*r.den=D at*
 simp only[aa.all,ax,beq_iff_eq,beq_eq_false_iff_ne,ne_eq,decide_eq_true_eq,decide_eq_false_iff_not,Bl]
 have m5:nl (Y-X)<2^38:=Nat.lt_of_le_of_lt (gB (by omega)) m2
 have m6:nl (X-Y)<2^38:=Nat.lt_of_le_of_lt (gB (by omega)) m1
 refine⟨by omega,fun hb=>⟨⟨by omega,by omega⟩,by omega,fS ?_ hz⟩,fun hb=>⟨by omega,fun hb2=>⟨⟨by omega,by omega⟩,by omega,fS ?_ hz⟩,fun hb2=>⟨⟨by omega,by omega,by omega,by omega,by omega,by omega,by omega,by omega⟩,⟨by omega,by omega,by omega,by omega⟩,⟨by omega,by omega⟩,
  fun hs=>⟨⟨by omega,by omega,by omega,m4,m3,hd0,by omega⟩,by omega,fS ?_ hz⟩,fun hs=>⟨⟨by omega,by omega⟩,fun hl=>⟨⟨by omega,by omega⟩,⟨by omega,m5,m3,hd0,by omega⟩,by omega,fS ?_ hz⟩,fun hl=>⟨⟨by omega,by omega⟩,⟨by omega,m6,m3,hd0,by omega⟩,by omega,fS ?_ hz⟩⟩⟩⟩⟩
 ·have h0:q=0:=pV.1 (iJ.1 (by omega))
  rw[h0,Rat.zero_add]
 ·have h0:r=0:=pV.1 (iJ.1 (by omega))
  rw[h0,Rat.add_zero]
 ·rw[hv,hs,Ee hd0]
 ·rw[hv,GF hd0 hs (by omega)]
 ·rw[hv,Ff hd0 hs (by omega)]
theorem Qk (hn:n<2^41) (hm':m<2^41) (K:Nat):aB P yu K [.rat q n,.rat r m] [] (aK (.rat (q*r) (n+m)) []):=by
 refine jj fun⟨hq,hr,_⟩=>?_
 have hq:Sz q n:=hq
 have hr:Sz r m:=hr
 have d1:=q.den_nz
 have d2:=r.den_nz
 have a1:nl q.num.natAbs<2^38:=gk hq.1 (by omega)
 have a2:nl q.den<2^38:=gk hq.2 (by omega)
 have b1:nl r.num.natAbs<2^38:=gk hr.1 (by omega)
 have b2:nl r.den<2^38:=gk hr.2 (by omega)
 have m1:nl (q.num.natAbs*r.num.natAbs)<2^38:=gk (q9 hq.1 hr.1) (by omega)
 have m3:nl (q.den*r.den)<2^38:=gk (q9 hq.2 hr.2) (by omega)
 have hv:sQ (decide (q<0)!=decide (r<0)) (q.num.natAbs*r.num.natAbs) (q.den*r.den)=q*r:=by rw[←FH,ko,ko]
 refine bJ hT zC hm agK rfl (of_decide_eq_true (by kernel_rfl)) rfl 60 Vx (fun _=>?_) K []
 simp only[aa.all,ax]
 exact⟨⟨by omega,by omega,by omega,by omega,by omega,by omega,by omega,by omega,by omega,by omega,m1,m3,Nat.mul_ne_zero d1 d2,by omega⟩,by omega,fS hv (hq.mul hr)⟩
theorem NP (hn:n<2^41) (hm':m<2^41) (K:Nat):aB P AD K [.rat q n,.rat r m] [] (aK (.int .i64 (fe q r)) []):=by
 refine jj fun⟨hq,hr,_⟩=>?_
 have hq:Sz q n:=hq
 have hr:Sz r m:=hr
 have a1:nl q.num.natAbs<2^38:=gk hq.1 (by omega)
 have a2:nl q.den<2^38:=gk hq.2 (by omega)
 have b1:nl r.num.natAbs<2^38:=gk hr.1 (by omega)
 have b2:nl r.den<2^38:=gk hr.2 (by omega)
 have m1:nl (q.num.natAbs*r.den)<2^38:=gk (q9 hq.1 hr.2) (by omega)
 have m2:nl (r.num.natAbs*q.den)<2^38:=gk (q9 hr.1 hq.2) (by omega)
 refine bJ hT zC hm aan rfl (of_decide_eq_true (by kernel_rfl)) rfl 60 R9 (fun _=>?_) K []
 simp only[aa.all,ax,bne_iff_ne,ne_eq,bne_eq_false_iff_eq]
 refine⟨⟨by omega,by omega⟩,fun hs=>⟨fun hl=>bw ?_,fun hl=>bw ?_⟩,fun hs=>⟨⟨by omega,by omega,by omega,by omega,by omega,by omega,by omega,by omega,by omega,by omega⟩,by omega,fun hc=>bw ?_,fun hc=>bw ?_⟩⟩
 ·rw[BZ hs,if_pos (of_decide_eq_true hl)]
 ·rw[BZ hs,if_neg (of_decide_eq_false hl)]
 ·rw[nS hs,if_pos (of_decide_eq_true hc),DG]
 ·rw[nS hs,if_neg (of_decide_eq_false hc)]
end ops
theorem Hz {x y:Int} (hy:y≠0):sQ (decide (x<0)!=decide (y<0)) x.natAbs y.natAbs=(x:Rat)/(y:Rat):=by
 have h:=Lb (x:Rat) (y:Rat) (by simpa using hy)
 have c:∀{z:Int},decide ((z:Rat)<0)=decide (z<0):=fun {z}=>by rw[decide_eq_decide,iB,Rat.num_intCast]
 rw[c,c,Rat.num_intCast,Rat.num_intCast,Rat.den_intCast,Rat.den_intCast,Nat.mul_one,Nat.one_mul]at h
 exact h
theorem GI {x y:Int} (h1:-2^63≤x) (h2:x<2^63) (h3:-2^63≤y) (h4:y<2^63) (hy:y≠0):Sz ((x:Rat)/(y:Rat)) 64:=by
 rw[←Hz hy];exact FN (by omega) (by omega) (by omega)
theorem abz {x y:Int} (h1:-2^63≤x) (h2:x<2^63) (h3:-2^63≤y) (h4:y<2^63) (K:Nat):aB P Bf K [.int .i64 x,.int .i64 y] [] (aK (.tuple [.rat ((x:Rat)/(y:Rat)) 64,.int .i64 (if y=0 then 3 else 0)]) []):=by
 refine bJ hT zC hm acd rfl (of_decide_eq_true (by kernel_rfl)) rfl 60 abB (fun _=>?_) K []
 simp only[aa.all,ax,beq_iff_eq,beq_eq_false_iff_ne,ne_eq]
 refine⟨fun hb=>⟨by omega,by omega,?_,bw (by rw[if_pos hb]),trivial⟩,fun hb=>⟨⟨h1,h2⟩,⟨h3,h4⟩,⟨gk (n:=64) (by omega) (by omega),gk (n:=64) (by omega) (by omega),by omega,by omega⟩,by omega,fS (Hz hb) (GI h1 h2 h3 h4 hb),bw (by rw[if_neg hb]),trivial⟩⟩
 rw[hb,show((x:Rat)/((0:Int):Rat))=0 by rw[Rat.intCast_zero,Rat.div_def,Rat.inv_zero,Rat.mul_zero]]
 exact lR
theorem P6 {n:Int} (h1:-2^63≤n) (h2:n<2^63) (K:Nat):aB P m9 K [.int .i64 n] [] (aK (.rat (n:Rat) (max 1 (br n.natAbs))) []):=by
 refine bJ hT zC hm aia rfl (of_decide_eq_true (by kernel_rfl)) rfl 60 U8 (fun _=>?_) K []
 simp only[aa.all,ax]
 refine⟨⟨h1,h2⟩,by omega,by omega,rO Iu ?_ (by rw[Rat.num_intCast]) (by rw[Rat.den_intCast,if_pos rfl])⟩
 rw[decide_eq_decide,iB,Rat.num_intCast]
theorem WX:∀K args pre r,Ro K args pre=some r→aB P Bf K args pre r:=by
 refine bV fun K args r hk hs _=>?_
 split at hs
 ·simp only[Option.some.injEq]at hs
  subst hs
  exact fun need=>abz need.1 need.2.1 need.2.2.1 need.2.2.2 K trivial
 ·simp at hs
theorem ah5:∀K args pre r,PM K args pre=some r→aB P qe K args pre r:=by
 refine bV fun K args r hk hs _=>?_
 split at hs
 ·simp only[Option.some.injEq]at hs
  subst hs
  exact fun need=>E1 need.1 need.2 K trivial
 ·simp at hs
theorem Rj:aY P HV:=aG ah5 (aG Oc (aG WX bk))
theorem Jq {q r:Rat} {n m:Nat} (hn:n<2^41) (hm':m<2^41) (K:Nat):aB P yP K [.rat q n,.rat r m] [] (aK (.rat (q-r) (n+m+1)) []):=by
 refine bJ hT Rj hm SF rfl (of_decide_eq_true (by kernel_rfl)) rfl 60 alb (fun _=>?_) K []
 simp only[aa.all,ax]
 exact⟨⟨by omega,by omega,hn,hm',by omega⟩,by omega,dc (by rw[Rat.sub_eq_add_neg])⟩
theorem adf {x y:Int} (h1:-2^63≤x) (h2:x<2^63) (h3:-2^63≤y) (h4:y<2^63) (K:Nat):aB P oK K [.int .i64 x,.int .i64 y] [] (aK (.rat ((x:Rat)/(y:Rat)) 64) []):=by
 refine bJ hT Rj hm af0 rfl (of_decide_eq_true (by kernel_rfl)) rfl 60 adk (fun _=>?_) K []
 simp only[aa.all,ax]
 exact⟨⟨h1,h2,h3,h4,by omega⟩,⟨by omega,by omega⟩,by omega,.refl _⟩
def v8:Spec:=bC fun l=>match l with
 |[.int .i64 n]=>some (aK (.rat (n:Rat) (max 1 (br n.natAbs))) [-2^63≤n,n<2^63])
 |_=>none
theorem Dn:∀K args pre r,v8 K args pre=some r→aB P m9 K args pre r:=by
 refine bV fun K args r hk hs _=>?_
 split at hs
 ·simp only[Option.some.injEq]at hs
  subst hs
  exact fun need=>P6 need.1 need.2 K trivial
 ·simp at hs
def yG:Spec:=bC fun l=>match l with
 |[.int .i64 x,.int .i64 y]=>some (aK (.rat ((x:Rat)/(y:Rat)) 64) [-2^63≤x,x<2^63,-2^63≤y,y<2^63])
 |_=>none
theorem B3:∀K args pre r,yG K args pre=some r→aB P oK K args pre r:=by
 refine bV fun K args r hk hs _=>?_
 split at hs
 ·simp only[Option.some.injEq]at hs
  subst hs
  exact fun need=>adf need.1 need.2.1 need.2.2.1 need.2.2.2 K trivial
 ·simp at hs
end Go.Am.B
