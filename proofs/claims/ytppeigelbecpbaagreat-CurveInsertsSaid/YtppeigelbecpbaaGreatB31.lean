/- ref02: Add, Sub, Mul, Cmp, Make, Frac, Int. -/
import Derived.Test.YtppeigelbecpbaaGreatB30
set_option linter.unusedVariables false
namespace Go.Am.B
open Go Go.Am.N AV
theorem aiz:aP P qj zU (au zU):=aQ ahb (by kernel_rfl) (by kernel_rfl) (by kernel_rfl)
theorem Si:aP P AY wG (au wG):=aQ Sg (by kernel_rfl) (by kernel_rfl) (by kernel_rfl)
theorem adF:aP P AW Aa (au Aa):=aQ ajR (by kernel_rfl) (by kernel_rfl) (by kernel_rfl)
theorem acM:aP P yu zu (au zu):=aQ Sw (by kernel_rfl) (by kernel_rfl) (by kernel_rfl)
theorem Tj:aP P zg yC (au yC):=aQ Vs (by kernel_rfl) (by kernel_rfl) (by kernel_rfl)
theorem ahI:aP P oR x4 (au x4):=aQ Xc (by kernel_rfl) (by kernel_rfl) (by kernel_rfl)
theorem af9:aP P mR y7 (au y7):=aQ VZ (by kernel_rfl) (by kernel_rfl) (by kernel_rfl)
def qq:aS:=[(x9,PO),(uj,Gj),(zy,IZ),(wT,MC),(pI,vw),(AK,NP),(rI,Ms),(uv,E8),(vX,Nd)]
def JR:Spec:=bE fun l=>match l with
 |[.int .i64 x,.int .i64 y]=>some (aG (.tuple [.rat ((x:Rat)/(y:Rat)) 64,.int .i64 (if y=0 then 3 else 0)]) [-2^63≤x,x<2^63,-2^63≤y,y<2^63])
 |_=>none
def NI:Spec:=bE fun l=>match l with
 |[.rat q n,.rat r m]=>some (aG (.rat (q+r) (n+m+1)) [n<2^41,m<2^41])
 |_=>none
def Io:aS:=[(qj,NI),(uv,E8),(zg,JR)]
theorem sr:aW P qq:=aH UU (aH K7 (aH abT (aH TT (aH D6 (aH adq (aH aaV (aH PG (aH Zd bp))))))))
theorem Z5 {q r:Rat} {n m:Nat}:bC T qq [15,20,41,52] 60 zU (au zU) ⟨aN 0 [.rat q n,.rat r m],[],0⟩=
  let c10:Bool:=decide (r<0);let c9:Nat:=2^38;let c8:Nat:=q.den*r.den;let c7:Bool:=decide (q<0);let c6:Nat:=2^39;let c5:Nat:=2^40;let c3:Nat:=q.num.natAbs*r.den;let c2:Nat:=r.num.natAbs*q.den;let c1:Prop:=0<1;let c4:List Prop:=[nl c8<c9,c8≠0,c1];some (aa.ag [c1] (aa.fork ((↑(nl q.num.natAbs):Int)==(0:Int)) (aa.ag [c1,c1] (aa.ag [c1] (aa.leaf ak.ret [rat r m]))) (aa.ag [c1] (aa.fork ((↑(nl r.num.natAbs):Int)==(0:Int)) (aa.ag [c1,c1] (aa.ag [c1] (aa.leaf ak.ret [rat q n]))) (aa.ag [c1,c1,nl q.num.natAbs<c6,nl r.den<c6,c1,c1,nl r.num.natAbs<c6,nl q.den<c6] (aa.ag [c1,c1,nl q.den<c6,nl r.den<c6] (aa.ag [c1,c1] (aa.fork (c7==c10) (aa.ag (c1::(nl c3<c5)::(nl c2<c5)::(nl (c3+c2)<c9)::c4) (aa.ag [c1] (aa.leaf ak.ret [rat (sQ c7 (c3+c2) c8) (cz (sQ c7 (c3+c2) c8))]))) (aa.ag [nl c3<c5,nl c2<c5] (aa.fork (decide (cH c3 c2<(0:Int))) (aa.ag [nl c2<c5,nl c3<c5] (aa.ag (c1::(nl (c2-c3)<c9)::c4) (aa.ag [c1] (aa.leaf ak.ret [rat (sQ c10 (c2-c3) c8) (cz (sQ c10 (c2-c3) c8))])))) (aa.ag [nl c3<c5,nl c2<c5] (aa.ag (c1::(nl (c3-c2)<c9)::c4) (aa.ag [c1] (aa.leaf ak.ret [rat (sQ c7 (c3-c2) c8) (cz (sQ c7 (c3-c2) c8))])))))))))))))):=by kernel_rfl
theorem afy {q r:Rat} {n m:Nat}:bC T qq [] 60 Aa (au Aa) ⟨aN 0 [.rat q n,.rat r m],[],0⟩=
  let c4:Nat:=q.num.natAbs*r.num.natAbs;let c3:Nat:=2^39;let c1:Prop:=0<1;let c2:Rat:=sQ (decide (q<0)!=decide (r<0)) c4 (q.den*r.den);some (aa.ag [c1,c1,c1,c1,nl q.num.natAbs<c3,nl r.num.natAbs<c3,c1,c1,nl q.den<c3,nl r.den<c3,nl c4<2^38,nl (q.den*r.den)<2^38,q.den*r.den≠0,c1] (aa.ag [c1] (aa.leaf ak.ret [rat c2 (cz c2)]))):=by kernel_rfl
theorem aeo {q r:Rat} {n m:Nat}:bC T qq [14,17,30] 60 zu (au zu) ⟨aN 0 [.rat q n,.rat r m],[],0⟩=
  let c3 : Int := cH (q.num.natAbs * r.den) (r.num.natAbs * q.den); let c2 : Nat := 2 ^ 39; let c1 : Prop := 0 < 1; some (aa.ag [c1, c1] (aa.fork (ey q != ey r) (aa.fork (decide (ey q < ey r)) (aa.leaf ak.ret [int IntKind.i64 (-1 : Int)]) (aa.leaf ak.ret [int IntKind.i64 (1 : Int)])) (aa.ag [c1, c1, nl q.num.natAbs < c2, nl r.den < c2, c1, c1, nl r.num.natAbs < c2, nl q.den < c2, nl (q.num.natAbs * r.den) < 2 ^ 40, nl (r.num.natAbs * q.den) < 2 ^ 40] (aa.ag [c1] (aa.fork (decide (q < 0)) (aa.leaf ak.ret [int IntKind.i64 (IntKind.i64.wrap ((0 : Int) - c3))]) (aa.leaf ak.ret [int IntKind.i64 c3])))))) := by kernel_rfl
theorem ad6 {x y:Int}:bC T qq [11] 60 yC (au yC) ⟨aN 0 [.int .i64 x,.int .i64 y],[],0⟩=
  let c3:List Prop:=[(0:Nat)<1];let c2:Int:=(2:Int)^63;let c1:Rat:=sQ (decide (x<(0:Int))!=decide (y<(0:Int))) x.natAbs y.natAbs;some (aa.fork (y==(0:Int)) (aa.ag c3 (aa.ag c3 (aa.leaf ak.ret [agg [AV.bool false,mag 0,mag 0],int IntKind.i64 (3:Int)]))) (aa.ag [-c2≤x,x<c2] (aa.ag [-c2≤y,y<c2] (aa.ag ((nl x.natAbs<2^38)::(nl y.natAbs<2^38)::(y.natAbs≠0)::c3) (aa.ag c3 (aa.leaf ak.ret [rat c1 (cz c1),int IntKind.i64 (0:Int)])))))):=by kernel_rfl
theorem X3 {x:Int}:bC T qq [] 60 y7 (au y7) ⟨aN 0 [.int .i64 x],[],0⟩=
  some (aa.ag [-(2:Int)^63≤x,x<(2:Int)^63] (aa.ag [(0:Nat)<1] (aa.ag [(0:Nat)<1] (aa.leaf ak.ret [agg [AV.bool (decide (x<(0:Int))),mag x.natAbs,mag 0]])))):=by kernel_rfl
theorem YV {q r:Rat} {n m:Nat}:bC T Io [] 60 wG (au wG) ⟨aN 0 [.rat q n,.rat r m],[],0⟩=
  let c1:Prop:=0<1;some (aa.ag [c1,c1,n<2^41,m<2^41,c1] (aa.ag [c1] (aa.leaf ak.ret [rat (q+-r) (n+m+1)]))):=by kernel_rfl
theorem abi {x y:Int}:bC T Io [] 60 x4 (au x4) ⟨aN 0 [.int .i64 x,.int .i64 y],[],0⟩=
  let c2:Prop:=0<1;let c1:Int:=(2:Int)^63;some (aa.ag [-c1≤x,x<c1,-c1≤y,y<c1,c2] (aa.ag [c2,c2] (aa.ag [c2] (aa.leaf ak.ret [rat ((↑x:Rat)/(↑y:Rat)) 64])))):=by kernel_rfl
theorem e9 {N n:Nat} (h:N<2^n) (hn:n<2^42):nl N<2^38:=by
 have h1:N<2^(32*(n/32+1)):=Nat.lt_of_lt_of_le h (Nat.pow_le_pow_right (by omega) (by omega))
 have:=cT.2 h1
 omega
section ops
variable {q r:Rat} {n m:Nat}
theorem mX {a b n m:Nat} (ha:a<2^n) (hb:b<2^m):a*b<2^(n+m):=by rw[Nat.pow_add];exact Nat.mul_lt_mul'' ha hb
theorem EG (hn:n<2^41) (hm':m<2^41) (K:Nat):aA P qj K [.rat q n,.rat r m] [] (aG (.rat (q+r) (n+m+1)) []):=by
 refine iC fun⟨hq,hr,_⟩=>?_
 have hq:Sz q n:=hq
 have hr:Sz r m:=hr
 have d1:=q.den_nz
 have d2:=r.den_nz
 have hz:=hq.add hr
 have a1:nl q.num.natAbs<2^38:=e9 hq.1 (by omega)
 have a2:nl q.den<2^38:=e9 hq.2 (by omega)
 have b1:nl r.num.natAbs<2^38:=e9 hr.1 (by omega)
 have b2:nl r.den<2^38:=e9 hr.2 (by omega)
 have x1:=mX hq.1 hr.2
 have x2:=mX hr.1 hq.2
 have m1:nl (q.num.natAbs*r.den)<2^38:=e9 x1 (by omega)
 have m2:nl (r.num.natAbs*q.den)<2^38:=e9 x2 (by omega)
 have m3:nl (q.den*r.den)<2^38:=e9 (mX hq.2 hr.2) (by omega)
 have m4:nl (q.num.natAbs*r.den+r.num.natAbs*q.den)<2^38:=e9 (n:=n+m+1) (by rw[Nat.pow_succ];rw[Nat.add_comm m n]at x2;omega) (by omega)
 have hd0:q.den*r.den≠0:=Nat.mul_ne_zero d1 d2
 have hv:q+r=sQ (decide (q<0)) (q.num.natAbs*r.den) (q.den*r.den)+sQ (decide (r<0)) (r.num.natAbs*q.den) (q.den*r.den):=by
  have:=E9 q r (decide (r<0))
  rw[jR r]at this
  exact this
 refine bJ hT sr hm aiz rfl (of_decide_eq_true (by kernel_rfl)) rfl 60 Z5 (fun _=>?_) K []
 generalize q.num.natAbs*r.den=X at*
 generalize r.num.natAbs*q.den=Y at*
 generalize q.den*r.den=D at*
 simp only[aa.all,ax,beq_iff_eq,beq_eq_false_iff_ne,ne_eq,decide_eq_true_eq,decide_eq_false_iff_not,Cd]
 have m5:nl (Y-X)<2^38:=Nat.lt_of_le_of_lt (gz (by omega)) m2
 have m6:nl (X-Y)<2^38:=Nat.lt_of_le_of_lt (gz (by omega)) m1
 refine⟨by omega,fun hb=>⟨⟨by omega,by omega⟩,by omega,ew ?_ hz⟩,fun hb=>⟨by omega,fun hb2=>⟨⟨by omega,by omega⟩,by omega,ew ?_ hz⟩,fun hb2=>⟨⟨by omega,by omega,by omega,by omega,by omega,by omega,by omega,by omega⟩,⟨by omega,by omega,by omega,by omega⟩,⟨by omega,by omega⟩,
  fun hs=>⟨⟨by omega,by omega,by omega,m4,m3,hd0,by omega⟩,by omega,ew ?_ hz⟩,fun hs=>⟨⟨by omega,by omega⟩,fun hl=>⟨⟨by omega,by omega⟩,⟨by omega,m5,m3,hd0,by omega⟩,by omega,ew ?_ hz⟩,fun hl=>⟨⟨by omega,by omega⟩,⟨by omega,m6,m3,hd0,by omega⟩,by omega,ew ?_ hz⟩⟩⟩⟩⟩
 ·have h0:q=0:=me.1 (iL.1 (by omega))
  rw[h0,Rat.zero_add]
 ·have h0:r=0:=me.1 (iL.1 (by omega))
  rw[h0,Rat.add_zero]
 ·rw[hv,hs,F9 hd0]
 ·rw[hv,EU hd0 hs (by omega)]
 ·rw[hv,F0 hd0 hs (by omega)]
theorem Pk (hn:n<2^41) (hm':m<2^41) (K:Nat):aA P AW K [.rat q n,.rat r m] [] (aG (.rat (q*r) (n+m)) []):=by
 refine iC fun⟨hq,hr,_⟩=>?_
 have hq:Sz q n:=hq
 have hr:Sz r m:=hr
 have d1:=q.den_nz
 have d2:=r.den_nz
 have a1:nl q.num.natAbs<2^38:=e9 hq.1 (by omega)
 have a2:nl q.den<2^38:=e9 hq.2 (by omega)
 have b1:nl r.num.natAbs<2^38:=e9 hr.1 (by omega)
 have b2:nl r.den<2^38:=e9 hr.2 (by omega)
 have m1:nl (q.num.natAbs*r.num.natAbs)<2^38:=e9 (mX hq.1 hr.1) (by omega)
 have m3:nl (q.den*r.den)<2^38:=e9 (mX hq.2 hr.2) (by omega)
 have hv:sQ (decide (q<0)!=decide (r<0)) (q.num.natAbs*r.num.natAbs) (q.den*r.den)=q*r:=by rw[←HA,jR,jR]
 refine bJ hT sr hm adF rfl (of_decide_eq_true (by kernel_rfl)) rfl 60 afy (fun _=>?_) K []
 simp only[aa.all,ax]
 exact⟨⟨by omega,by omega,by omega,by omega,by omega,by omega,by omega,by omega,by omega,by omega,m1,m3,Nat.mul_ne_zero d1 d2,by omega⟩,by omega,ew hv (hq.mul hr)⟩
theorem LF (hn:n<2^41) (hm':m<2^41) (K:Nat):aA P yu K [.rat q n,.rat r m] [] (aG (.int .i64 (dc q r)) []):=by
 refine iC fun⟨hq,hr,_⟩=>?_
 have hq:Sz q n:=hq
 have hr:Sz r m:=hr
 have a1:nl q.num.natAbs<2^38:=e9 hq.1 (by omega)
 have a2:nl q.den<2^38:=e9 hq.2 (by omega)
 have b1:nl r.num.natAbs<2^38:=e9 hr.1 (by omega)
 have b2:nl r.den<2^38:=e9 hr.2 (by omega)
 have m1:nl (q.num.natAbs*r.den)<2^38:=e9 (mX hq.1 hr.2) (by omega)
 have m2:nl (r.num.natAbs*q.den)<2^38:=e9 (mX hr.1 hq.2) (by omega)
 refine bJ hT sr hm acM rfl (of_decide_eq_true (by kernel_rfl)) rfl 60 aeo (fun _=>?_) K []
 simp only[aa.all,ax,bne_iff_ne,ne_eq,bne_eq_false_iff_eq]
 refine⟨⟨by omega,by omega⟩,fun hs=>⟨fun hl=>bt ?_,fun hl=>bt ?_⟩,fun hs=>⟨⟨by omega,by omega,by omega,by omega,by omega,by omega,by omega,by omega,by omega,by omega⟩,by omega,fun hc=>bt ?_,fun hc=>bt ?_⟩⟩
 ·rw[BG hs,if_pos (of_decide_eq_true hl)]
 ·rw[BG hs,if_neg (of_decide_eq_false hl)]
 ·rw[nq hs,if_pos (of_decide_eq_true hc),Bq]
 ·rw[nq hs,if_neg (of_decide_eq_false hc)]
end ops
theorem IL {x y:Int} (hy:y≠0):sQ (decide (x<0)!=decide (y<0)) x.natAbs y.natAbs=(x:Rat)/(y:Rat):=by
 have h:=Gn (x:Rat) (y:Rat) (by simpa using hy)
 have c:∀{z:Int},decide ((z:Rat)<0)=decide (z<0):=fun {z}=>by rw[decide_eq_decide,iu,Rat.num_intCast]
 rw[c,c,Rat.num_intCast,Rat.num_intCast,Rat.den_intCast,Rat.den_intCast,Nat.mul_one,Nat.one_mul]at h
 exact h
theorem OL {x y:Int} (h1:-2^63≤x) (h2:x<2^63) (h3:-2^63≤y) (h4:y<2^63) (hy:y≠0):Sz ((x:Rat)/(y:Rat)) 64:=by
 rw[←IL hy];exact Ed (by omega) (by omega) (by omega)
theorem abj {x y:Int} (h1:-2^63≤x) (h2:x<2^63) (h3:-2^63≤y) (h4:y<2^63) (K:Nat):aA P zg K [.int .i64 x,.int .i64 y] [] (aG (.tuple [.rat ((x:Rat)/(y:Rat)) 64,.int .i64 (if y=0 then 3 else 0)]) []):=by
 refine bJ hT sr hm Tj rfl (of_decide_eq_true (by kernel_rfl)) rfl 60 ad6 (fun _=>?_) K []
 simp only[aa.all,ax,beq_iff_eq,beq_eq_false_iff_ne,ne_eq]
 refine⟨fun hb=>⟨by omega,by omega,?_,bt (by rw[if_pos hb]),trivial⟩,fun hb=>⟨⟨h1,h2⟩,⟨h3,h4⟩,⟨e9 (n:=64) (by omega) (by omega),e9 (n:=64) (by omega) (by omega),by omega,by omega⟩,by omega,ew (IL hb) (OL h1 h2 h3 h4 hb),bt (by rw[if_neg hb]),trivial⟩⟩
 rw[hb,show((x:Rat)/((0:Int):Rat))=0 by rw[Rat.intCast_zero,Rat.div_def,Rat.inv_zero,Rat.mul_zero]]
 exact lf
theorem Kx {n:Int} (h1:-2^63≤n) (h2:n<2^63) (K:Nat):aA P mR K [.int .i64 n] [] (aG (.rat (n:Rat) (max 1 (bu n.natAbs))) []):=by
 refine bJ hT sr hm af9 rfl (of_decide_eq_true (by kernel_rfl)) rfl 60 X3 (fun _=>?_) K []
 simp only[aa.all,ax]
 refine⟨⟨h1,h2⟩,by omega,by omega,qR IJ ?_ (by rw[Rat.num_intCast]) (by rw[Rat.den_intCast,if_pos rfl])⟩
 rw[decide_eq_decide,iu,Rat.num_intCast]
theorem aj3:∀K args pre r,JR K args pre=some r→aA P zg K args pre r:=by
 refine bX fun K args r hk hs _=>?_
 split at hs
 ·simp only[Option.some.injEq]at hs
  subst hs
  exact fun need=>abj need.1 need.2.1 need.2.2.1 need.2.2.2 K trivial
 ·simp at hs
theorem Th:∀K args pre r,NI K args pre=some r→aA P qj K args pre r:=by
 refine bX fun K args r hk hs _=>?_
 split at hs
 ·simp only[Option.some.injEq]at hs
  subst hs
  exact fun need=>EG need.1 need.2 K trivial
 ·simp at hs
theorem Jo:aW P Io:=aH Th (aH PG (aH aj3 bp))
theorem Jw {q r:Rat} {n m:Nat} (hn:n<2^41) (hm':m<2^41) (K:Nat):aA P AY K [.rat q n,.rat r m] [] (aG (.rat (q-r) (n+m+1)) []):=by
 refine bJ hT Jo hm Si rfl (of_decide_eq_true (by kernel_rfl)) rfl 60 YV (fun _=>?_) K []
 simp only[aa.all,ax]
 exact⟨⟨by omega,by omega,hn,hm',by omega⟩,by omega,cX (by rw[Rat.sub_eq_add_neg])⟩
theorem UZ {x y:Int} (h1:-2^63≤x) (h2:x<2^63) (h3:-2^63≤y) (h4:y<2^63) (K:Nat):aA P oR K [.int .i64 x,.int .i64 y] [] (aG (.rat ((x:Rat)/(y:Rat)) 64) []):=by
 refine bJ hT Jo hm ahI rfl (of_decide_eq_true (by kernel_rfl)) rfl 60 abi (fun _=>?_) K []
 simp only[aa.all,ax]
 exact⟨⟨h1,h2,h3,h4,by omega⟩,⟨by omega,by omega⟩,by omega,.refl _⟩
def AG:Spec:=bE fun l=>match l with
 |[.int .i64 n]=>some (aG (.rat (n:Rat) (max 1 (bu n.natAbs))) [-2^63≤n,n<2^63])
 |_=>none
theorem D8:∀K args pre r,AG K args pre=some r→aA P mR K args pre r:=by
 refine bX fun K args r hk hs _=>?_
 split at hs
 ·simp only[Option.some.injEq]at hs
  subst hs
  exact fun need=>Kx need.1 need.2 K trivial
 ·simp at hs
def uZ:Spec:=bE fun l=>match l with
 |[.int .i64 x,.int .i64 y]=>some (aG (.rat ((x:Rat)/(y:Rat)) 64) [-2^63≤x,x<2^63,-2^63≤y,y<2^63])
 |_=>none
theorem DU:∀K args pre r,uZ K args pre=some r→aA P oR K args pre r:=by
 refine bX fun K args r hk hs _=>?_
 split at hs
 ·simp only[Option.some.injEq]at hs
  subst hs
  exact fun need=>UZ need.1 need.2.1 need.2.2.1 need.2.2.2 K trivial
 ·simp at hs
end Go.Am.B
