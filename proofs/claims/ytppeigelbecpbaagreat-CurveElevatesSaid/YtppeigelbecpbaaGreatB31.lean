/- ref02. -/
import Derived.Test.YtppeigelbecpbaaGreatB30
set_option linter.unusedVariables false
namespace Go.Am.B
open Go Go.Am.N AV
theorem ahL:aT P uM Fh (aA Fh):=aY Proofs.Tryz.func63 ag ag ag
theorem ajO:aT P BR Fs (aA Fs):=aY Proofs.Tryz.func66 ag ag ag
theorem XG:aT P C9 B9 (aA B9):=aY Proofs.Tryz.func64 ag ag ag
theorem aiA:aT P Gi DA (aA DA):=aY Proofs.Tryz.func92 ag ag ag
theorem aim:aT P F0 D5 (aA D5):=aY Proofs.Tryz.func95 ag ag ag
theorem ak1:aT P s4 D0 (aA D0):=aY Proofs.Tryz.func37 ag ag ag
theorem UD:aT P rC E6 (aA E6):=aY Proofs.Tryz.func36 ag ag ag
def tR:bg:=[(Ew,OV),(Ae,Lu),(DF,SG),(CT,SC),(sn,zT),(EJ,QM),(uw,Tr),(x6,Kz),(DB,Pg)]
def Rs:Spec:=bX fun l=>match l with
 |[.int .i64 x,.int .i64 y]=>some (aK (.tuple [.rat ((x:Rat)/(y:Rat)) 64,.int .i64 (if y=0 then 3 else 0)]) [-2^63<=x,x<2^63,-2^63<=y,y<2^63])
 |_=>none
def Pm:Spec:=bX fun l=>match l with
 |[.rat q n,.rat r m]=>some (aK (.rat (q+r) (n+m+1)) [n<2^41,m<2^41])
 |_=>none
def IT:bg:=[(uM,Pm),(x6,Kz),(F0,Rs)]
theorem wA:bz P tR:=aL abl (aL RN (aL WO (aL Wy (aL E3 (aL UM (aL aeA (aL MU (aL afg bO))))))))
theorem aff {q r:Rat} {n m:Nat}:bW T tR [15,20,41,52] 60 Fh (aA Fh) ⟨aQ 0 [.rat q n,.rat r m],[],0⟩=
  let c10:Bool:=decide (r<0);let c9:Nat:=2^38;let c8:Nat:=q.den*r.den;let c7:Bool:=decide (q<0);let c6:Nat:=2^39;let c5:Nat:=2^40;let c3:Nat:=q.num.natAbs*r.den;let c2:Nat:=r.num.natAbs*q.den;let c1:Prop:=0<1;let c4:List Prop:=[nl c8<c9,c8≠0,c1];some (ah.aj [c1] (ah.fork ((↑(nl q.num.natAbs):Int)==(0:Int)) (ah.aj [c1,c1] (ah.aj [c1] (ah.leaf au.ret [rat r m]))) (ah.aj [c1] (ah.fork ((↑(nl r.num.natAbs):Int)==(0:Int)) (ah.aj [c1,c1] (ah.aj [c1] (ah.leaf au.ret [rat q n]))) (ah.aj [c1,c1,nl q.num.natAbs<c6,nl r.den<c6,c1,c1,nl r.num.natAbs<c6,nl q.den<c6] (ah.aj [c1,c1,nl q.den<c6,nl r.den<c6] (ah.aj [c1,c1] (ah.fork (c7==c10) (ah.aj (c1::(nl c3<c5)::(nl c2<c5)::(nl (c3+c2)<c9)::c4) (ah.aj [c1] (ah.leaf au.ret [rat (sQ c7 (c3+c2) c8) (cS (sQ c7 (c3+c2) c8))]))) (ah.aj [nl c3<c5,nl c2<c5] (ah.fork (decide (cX c3 c2<(0:Int))) (ah.aj [nl c2<c5,nl c3<c5] (ah.aj (c1::(nl (c2-c3)<c9)::c4) (ah.aj [c1] (ah.leaf au.ret [rat (sQ c10 (c2-c3) c8) (cS (sQ c10 (c2-c3) c8))])))) (ah.aj [nl c3<c5,nl c2<c5] (ah.aj (c1::(nl (c3-c2)<c9)::c4) (ah.aj [c1] (ah.leaf au.ret [rat (sQ c7 (c3-c2) c8) (cS (sQ c7 (c3-c2) c8))])))))))))))))):=ag
theorem ahR {q r:Rat} {n m:Nat}:bW T tR [] 60 B9 (aA B9) ⟨aQ 0 [.rat q n,.rat r m],[],0⟩=
  let c4:Nat:=q.num.natAbs*r.num.natAbs;let c3:Nat:=2^39;let c1:Prop:=0<1;let c2:Rat:=sQ (decide (q<0)!=decide (r<0)) c4 (q.den*r.den);some (ah.aj [c1,c1,c1,c1,nl q.num.natAbs<c3,nl r.num.natAbs<c3,c1,c1,nl q.den<c3,nl r.den<c3,nl c4<2^38,nl (q.den*r.den)<2^38,q.den*r.den≠0,c1] (ah.aj [c1] (ah.leaf au.ret [rat c2 (cS c2)]))):=ag
theorem ac3 {q r:Rat} {n m:Nat}:bW T tR [14,17,30] 60 DA (aA DA) ⟨aQ 0 [.rat q n,.rat r m],[],0⟩=
  let c3 : Int := cX (q.num.natAbs * r.den) (r.num.natAbs * q.den); let c2 : Nat := 2 ^ 39; let c1 : Prop := 0 < 1; some (ah.aj [c1, c1] (ah.fork (eW q != eW r) (ah.fork (decide (eW q < eW r)) (ah.leaf au.ret [int IntKind.i64 (-1 : Int)]) (ah.leaf au.ret [int IntKind.i64 (1 : Int)])) (ah.aj [c1, c1, nl q.num.natAbs < c2, nl r.den < c2, c1, c1, nl r.num.natAbs < c2, nl q.den < c2, nl (q.num.natAbs * r.den) < 2 ^ 40, nl (r.num.natAbs * q.den) < 2 ^ 40] (ah.aj [c1] (ah.fork (decide (q < 0)) (ah.leaf au.ret [int IntKind.i64 (IntKind.i64.wrap ((0 : Int) - c3))]) (ah.leaf au.ret [int IntKind.i64 c3])))))) := ag
theorem agG {x y:Int}:bW T tR [11] 60 D5 (aA D5) ⟨aQ 0 [.int .i64 x,.int .i64 y],[],0⟩=
  let c3:List Prop:=[(0:Nat)<1];let c2:Int:=(2:Int)^63;let c1:Rat:=sQ (decide (x<(0:Int))!=decide (y<(0:Int))) x.natAbs y.natAbs;some (ah.fork (y==(0:Int)) (ah.aj c3 (ah.aj c3 (ah.leaf au.ret [agg [AV.bool false,mag 0,mag 0],int IntKind.i64 (3:Int)]))) (ah.aj [-c2<=x,x<c2] (ah.aj [-c2<=y,y<c2] (ah.aj ((nl x.natAbs<2^38)::(nl y.natAbs<2^38)::(y.natAbs≠0)::c3) (ah.aj c3 (ah.leaf au.ret [rat c1 (cS c1),int IntKind.i64 (0:Int)])))))):=ag
theorem YY {x:Int}:bW T tR [] 60 E6 (aA E6) ⟨aQ 0 [.int .i64 x],[],0⟩=
  some (ah.aj [-(2:Int)^63<=x,x<(2:Int)^63] (ah.aj [(0:Nat)<1] (ah.aj [(0:Nat)<1] (ah.leaf au.ret [agg [AV.bool (decide (x<(0:Int))),mag x.natAbs,mag 0]])))):=ag
theorem Y8 {q r:Rat} {n m:Nat}:bW T IT [] 60 Fs (aA Fs) ⟨aQ 0 [.rat q n,.rat r m],[],0⟩=
  let c1:Prop:=0<1;some (ah.aj [c1,c1,n<2^41,m<2^41,c1] (ah.aj [c1] (ah.leaf au.ret [rat (q+-r) (n+m+1)]))):=ag
theorem alv {x y:Int}:bW T IT [] 60 D0 (aA D0) ⟨aQ 0 [.int .i64 x,.int .i64 y],[],0⟩=
  let c2:Prop:=0<1;let c1:Int:=(2:Int)^63;some (ah.aj [-c1<=x,x<c1,-c1<=y,y<c1,c2] (ah.aj [c2,c2] (ah.aj [c2] (ah.leaf au.ret [rat ((↑x:Rat)/(↑y:Rat)) 64])))):=ag
theorem fJ {N n:Nat} (h:N<2^n) (hn:n<2^42):nl N<2^38:=by
 have h1:N<2^(32*(n/32+1)):=Nat.lt_of_lt_of_le h (Nat.pow_le_pow_right aa aa)
 have:=dz.2 h1
 omega
section ops
variable {q r:Rat} {n m:Nat}
theorem oO {a b n m:Nat} (ha:a<2^n) (hb:b<2^m):a*b<2^(n+m):=by rw[Nat.pow_add];exact Nat.mul_lt_mul'' ha hb
theorem K3 (hn:n<2^41) (hm':m<2^41) (K:Nat):aE P uM K [.rat q n,.rat r m] [] (aK (.rat (q+r) (n+m+1)) []):=by
 refine jn fun⟨hq,hr,_⟩=>?_
 have hq:Sz q n:=hq
 have hr:Sz r m:=hr
 have d1:=q.den_nz
 have d2:=r.den_nz
 have hz:=hq.add hr
 have a1:nl q.num.natAbs<2^38:=fJ hq.1 aa
 have a2:nl q.den<2^38:=fJ hq.2 aa
 have b1:nl r.num.natAbs<2^38:=fJ hr.1 aa
 have b2:nl r.den<2^38:=fJ hr.2 aa
 have x1:=oO hq.1 hr.2
 have x2:=oO hr.1 hq.2
 have m1:nl (q.num.natAbs*r.den)<2^38:=fJ x1 aa
 have m2:nl (r.num.natAbs*q.den)<2^38:=fJ x2 aa
 have m3:nl (q.den*r.den)<2^38:=fJ (oO hq.2 hr.2) aa
 have m4:nl (q.num.natAbs*r.den+r.num.natAbs*q.den)<2^38:=fJ (n:=n+m+1) (by rw[Nat.pow_succ];rw[Nat.add_comm m n]at x2;omega) aa
 have hd0:q.den*r.den≠0:=Nat.mul_ne_zero d1 d2
 have hv:q+r=sQ (decide (q<0)) (q.num.natAbs*r.den) (q.den*r.den)+sQ (decide (r<0)) (r.num.natAbs*q.den) (q.den*r.den):=by
  have:=IS q r (decide (r<0))
  rw[lJ r]at this
  exact this
 refine cj hT wA hm ahL rfl aX rfl 60 aff (fun _=>?_) K []
 generalize q.num.natAbs*r.den=X at*
 generalize r.num.natAbs*q.den=Y at*
 generalize q.den*r.den=D at*
 simp only[ah.all,az,beq_iff_eq,beq_eq_false_iff_ne,ne_eq,aZ,bk,Cz]
 have m5:nl (Y-X)<2^38:=Nat.lt_of_le_of_lt (gV aa) m2
 have m6:nl (X-Y)<2^38:=Nat.lt_of_le_of_lt (gV aa) m1
 refine⟨aa,fun hb=>⟨⟨aa,aa⟩,aa,dA ?_ hz⟩,fun hb=>⟨aa,fun hb2=>⟨⟨aa,aa⟩,aa,dA ?_ hz⟩,fun hb2=>⟨⟨aa,aa,aa,aa,aa,aa,aa,aa⟩,⟨aa,aa,aa,aa⟩,⟨aa,aa⟩,
  fun hs=>⟨⟨aa,aa,aa,m4,m3,hd0,aa⟩,aa,dA ?_ hz⟩,fun hs=>⟨⟨aa,aa⟩,fun hl=>⟨⟨aa,aa⟩,⟨aa,m5,m3,hd0,aa⟩,aa,dA ?_ hz⟩,fun hl=>⟨⟨aa,aa⟩,⟨aa,m6,m3,hd0,aa⟩,aa,dA ?_ hz⟩⟩⟩⟩⟩
 ·have h0:q=0:=nu.1 (jG.1 aa)
  rw[h0,Rat.zero_add]
 ·have h0:r=0:=nu.1 (jG.1 aa)
  rw[h0,Rat.add_zero]
 ·rw[hv,hs,Hu hd0]
 ·rw[hv,Jv hd0 hs aa]
 ·rw[hv,Jk hd0 hs aa]
theorem PZ (hn:n<2^41) (hm':m<2^41) (K:Nat):aE P C9 K [.rat q n,.rat r m] [] (aK (.rat (q*r) (n+m)) []):=by
 refine jn fun⟨hq,hr,_⟩=>?_
 have hq:Sz q n:=hq
 have hr:Sz r m:=hr
 have d1:=q.den_nz
 have d2:=r.den_nz
 have a1:nl q.num.natAbs<2^38:=fJ hq.1 aa
 have a2:nl q.den<2^38:=fJ hq.2 aa
 have b1:nl r.num.natAbs<2^38:=fJ hr.1 aa
 have b2:nl r.den<2^38:=fJ hr.2 aa
 have m1:nl (q.num.natAbs*r.num.natAbs)<2^38:=fJ (oO hq.1 hr.1) aa
 have m3:nl (q.den*r.den)<2^38:=fJ (oO hq.2 hr.2) aa
 have hv:sQ (decide (q<0)!=decide (r<0)) (q.num.natAbs*r.num.natAbs) (q.den*r.den)=q*r:=by rw[<-KI,lJ,lJ]
 refine cj hT wA hm XG rfl aX rfl 60 ahR (fun _=>?_) K []
 simp only[ah.all,az]
 exact⟨⟨aa,aa,aa,aa,aa,aa,aa,aa,aa,aa,m1,m3,Nat.mul_ne_zero d1 d2,aa⟩,aa,dA hv (hq.mul hr)⟩
theorem Om (hn:n<2^41) (hm':m<2^41) (K:Nat):aE P Gi K [.rat q n,.rat r m] [] (aK (.int .i64 (dM q r)) []):=by
 refine jn fun⟨hq,hr,_⟩=>?_
 have hq:Sz q n:=hq
 have hr:Sz r m:=hr
 have a1:nl q.num.natAbs<2^38:=fJ hq.1 aa
 have a2:nl q.den<2^38:=fJ hq.2 aa
 have b1:nl r.num.natAbs<2^38:=fJ hr.1 aa
 have b2:nl r.den<2^38:=fJ hr.2 aa
 have m1:nl (q.num.natAbs*r.den)<2^38:=fJ (oO hq.1 hr.2) aa
 have m2:nl (r.num.natAbs*q.den)<2^38:=fJ (oO hr.1 hq.2) aa
 refine cj hT wA hm aiA rfl aX rfl 60 ac3 (fun _=>?_) K []
 simp only[ah.all,az,bne_iff_ne,ne_eq,bne_eq_false_iff_eq]
 refine⟨⟨aa,aa⟩,fun hs=>⟨fun hl=>bQ ?_,fun hl=>bQ ?_⟩,fun hs=>⟨⟨aa,aa,aa,aa,aa,aa,aa,aa,aa,aa⟩,aa,fun hc=>bQ ?_,fun hc=>bQ ?_⟩⟩
 ·rw[EU hs,if_pos (of_decide_eq_true hl)]
 ·rw[EU hs,if_neg (of_decide_eq_false hl)]
 ·rw[pE hs,if_pos (of_decide_eq_true hc),CM]
 ·rw[pE hs,if_neg (of_decide_eq_false hc)]
end ops
theorem C5 {x y:Int} (hy:y≠0):sQ (decide (x<0)!=decide (y<0)) x.natAbs y.natAbs=(x:Rat)/(y:Rat):=by
 have h:=H9 (x:Rat) (y:Rat) (by simpa using hy)
 have c:∀{z:Int},decide ((z:Rat)<0)=decide (z<0):=fun {z}=>by rw[decide_eq_decide,iS,Rat.num_intCast]
 rw[c,c,Rat.num_intCast,Rat.num_intCast,Rat.den_intCast,Rat.den_intCast,Nat.mul_one,Nat.one_mul]at h
 exact h
theorem J1 {x y:Int} (h1:-2^63<=x) (h2:x<2^63) (h3:-2^63<=y) (h4:y<2^63) (hy:y≠0):Sz ((x:Rat)/(y:Rat)) 64:=by
 rw[<-C5 hy];exact BQ aa aa aa
theorem Uc {x y:Int} (h1:-2^63<=x) (h2:x<2^63) (h3:-2^63<=y) (h4:y<2^63) (K:Nat):aE P F0 K [.int .i64 x,.int .i64 y] [] (aK (.tuple [.rat ((x:Rat)/(y:Rat)) 64,.int .i64 (if y=0 then 3 else 0)]) []):=by
 refine cj hT wA hm aim rfl aX rfl 60 agG (fun _=>?_) K []
 simp only[ah.all,az,beq_iff_eq,beq_eq_false_iff_ne,ne_eq]
 refine⟨fun hb=>⟨aa,aa,?_,bQ (by rw[if_pos hb]),trivial⟩,fun hb=>⟨⟨h1,h2⟩,⟨h3,h4⟩,⟨fJ (n:=64) aa aa,fJ (n:=64) aa aa,aa,aa⟩,aa,dA (C5 hb) (J1 h1 h2 h3 h4 hb),bQ (by rw[if_neg hb]),trivial⟩⟩
 rw[hb,show((x:Rat)/((0:Int):Rat))=0 by rw[Rat.intCast_zero,Rat.div_def,Rat.inv_zero,Rat.mul_zero]]
 exact lT
theorem OZ {n:Int} (h1:-2^63<=n) (h2:n<2^63) (K:Nat):aE P rC K [.int .i64 n] [] (aK (.rat (n:Rat) (max 1 (bN n.natAbs))) []):=by
 refine cj hT wA hm UD rfl aX rfl 60 YY (fun _=>?_) K []
 simp only[ah.all,az]
 refine⟨⟨h1,h2⟩,aa,aa,uj HQ ?_ (by rw[Rat.num_intCast]) (by rw[Rat.den_intCast,if_pos rfl])⟩
 rw[decide_eq_decide,iS,Rat.num_intCast]
theorem aeg:∀K args pre r,Rs K args pre=some r->aE P F0 K args pre r:=by
 refine cK fun K args r hk hs _=>?_
 split at hs
 ·simp only[ay]at hs
  subst hs
  exact fun need=>Uc need.1 need.2.1 need.2.2.1 need.2.2.2 K trivial
 ·simp at hs
theorem afU:∀K args pre r,Pm K args pre=some r->aE P uM K args pre r:=by
 refine cK fun K args r hk hs _=>?_
 split at hs
 ·simp only[ay]at hs
  subst hs
  exact fun need=>K3 need.1 need.2 K trivial
 ·simp at hs
theorem Rn:bz P IT:=aL afU (aL MU (aL aeg bO))
theorem Qg {q r:Rat} {n m:Nat} (hn:n<2^41) (hm':m<2^41) (K:Nat):aE P BR K [.rat q n,.rat r m] [] (aK (.rat (q-r) (n+m+1)) []):=by
 refine cj hT Rn hm ajO rfl aX rfl 60 Y8 (fun _=>?_) K []
 simp only[ah.all,az]
 exact⟨⟨aa,aa,hn,hm',aa⟩,aa,dF (by rw[Rat.sub_eq_add_neg])⟩
theorem aij {x y:Int} (h1:-2^63<=x) (h2:x<2^63) (h3:-2^63<=y) (h4:y<2^63) (K:Nat):aE P s4 K [.int .i64 x,.int .i64 y] [] (aK (.rat ((x:Rat)/(y:Rat)) 64) []):=by
 refine cj hT Rn hm ak1 rfl aX rfl 60 alv (fun _=>?_) K []
 simp only[ah.all,az]
 exact⟨⟨h1,h2,h3,h4,aa⟩,⟨aa,aa⟩,aa,.refl _⟩
def Aw:Spec:=bX fun l=>match l with
 |[.int .i64 n]=>some (aK (.rat (n:Rat) (max 1 (bN n.natAbs))) [-2^63<=n,n<2^63])
 |_=>none
theorem Cw:∀K args pre r,Aw K args pre=some r->aE P rC K args pre r:=by
 refine cK fun K args r hk hs _=>?_
 split at hs
 ·simp only[ay]at hs
  subst hs
  exact fun need=>OZ need.1 need.2 K trivial
 ·simp at hs
def zS:Spec:=bX fun l=>match l with
 |[.int .i64 x,.int .i64 y]=>some (aK (.rat ((x:Rat)/(y:Rat)) 64) [-2^63<=x,x<2^63,-2^63<=y,y<2^63])
 |_=>none
theorem Bd:∀K args pre r,zS K args pre=some r->aE P s4 K args pre r:=by
 refine cK fun K args r hk hs _=>?_
 split at hs
 ·simp only[ay]at hs
  subst hs
  exact fun need=>aij need.1 need.2.1 need.2.2.1 need.2.2.2 K trivial
 ·simp at hs
end Go.Am.B
