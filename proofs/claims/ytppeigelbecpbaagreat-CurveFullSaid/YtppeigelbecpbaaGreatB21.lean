/- rational.Add, Sub, Mul, Quo, Cmp, Min, Max, Int. -/
import Derived.Test.YtppeigelbecpbaaGreatB20
set_option linter.unusedVariables false
namespace Go.Am.B
open Go Go.Am.N AV
theorem RD:aN P tu vE (au vE):=aO NZ (by kernel_rfl) (by kernel_rfl) (by kernel_rfl)
theorem VA:aN P qA uh (au uh):=aO Ly (by kernel_rfl) (by kernel_rfl) (by kernel_rfl)
theorem RK:aN P yN vH (au vH):=aO OT (by kernel_rfl) (by kernel_rfl) (by kernel_rfl)
theorem XA:aN P wC tV (au tV):=aO YK (by kernel_rfl) (by kernel_rfl) (by kernel_rfl)
theorem Mb:aN P oe qO (au qO):=aO VZ (by kernel_rfl) (by kernel_rfl) (by kernel_rfl)
def FT:Spec:=bq fun l=>match l with
 |[.rat q n,.rat r m,.bool s]=>some (aG (.rat (q+sQ s r.num.natAbs r.den) (n+m+1)) [n<2^42,m<2^42])
 |_=>none
def CV:Spec:=bq fun l=>match l with
 |[.rat q n,.rat r m]=>some (aG (.int .i64 (dS q r)) [n<2^42,m<2^42])
 |_=>none
abbrev zY:FuncId×Spec:=(sU,C3)
def GA:aT:=(vp,FT)::(hJ,CV)::zY::(qF,EB)::(pV,Bf)::(p5,zB)::[]
theorem Te {q r:Rat} {n m:Nat}:bu T GA [] 60 vE (au vE) ⟨aM 0 [.rat q n,.rat r m],[],0⟩=
  let c1:Prop:=0<1;some (aa.ag [c1,c1,c1,n<2^42,m<2^42,c1] (aa.ag [c1] (aa.leaf ah.ret [rat (q+sQ (decide (r<0)) r.num.natAbs r.den) (n+m+1)]))):=by kernel_rfl
theorem T8 {q r:Rat} {n m:Nat}:bu T GA [] 60 uh (au uh) ⟨aM 0 [.rat q n,.rat r m],[],0⟩=
  let c1:Prop:=0<1;some (aa.ag [c1,c1,c1,n<2^42,m<2^42,c1] (aa.ag [c1] (aa.leaf ah.ret [rat (q+sQ (!decide (r<0)) r.num.natAbs r.den) (n+m+1)]))):=by kernel_rfl
theorem Tt {q r:Rat} {n m:Nat}:bu T GA [8] 60 vH (au vH) ⟨aM 0 [.rat q n,.rat r m],[],0⟩=
  let c1:Prop:=0<1;some (aa.ag [c1,c1,m<2^42,n<2^42] (aa.fork (decide (dS r q<(0:Int))) (aa.ag [c1,c1] (aa.ag [c1,m<2^44,c1] (aa.ag [c1] (aa.leaf ah.ret [rat r m])))) (aa.ag [c1,n<2^44,c1] (aa.ag [c1] (aa.leaf ah.ret [rat q n]))))):=by kernel_rfl
theorem Oj {q r:Rat} {n m:Nat}:bu T GA [8] 60 tV (au tV) ⟨aM 0 [.rat q n,.rat r m],[],0⟩=
  let c1:Prop:=0<1;some (aa.ag [c1,c1,m<2^42,n<2^42] (aa.fork (decide (dS r q>(0:Int))) (aa.ag [c1,c1] (aa.ag [c1,m<2^44,c1] (aa.ag [c1] (aa.leaf ah.ret [rat r m])))) (aa.ag [c1,n<2^44,c1] (aa.ag [c1] (aa.leaf ah.ret [rat q n]))))):=by kernel_rfl
theorem RN {n:Int}:bu T GA [] 60 qO (au qO) ⟨aM 0 [.int .i64 n],[],0⟩=
  let c1:Rat:=sQ (decide (n<(0:Int))) n.natAbs 1;some (aa.ag [-(2:Int)^63≤n,n<(2:Int)^63,nl n.natAbs<2^40,nl 1<2^40,(0:Nat)<1] (aa.ag [(0:Nat)<1] (aa.leaf ah.ret [rat c1 (bV c1)]))):=by kernel_rfl
theorem Vt {q r:Rat} {n m:Nat}:bu T GQ [20,23,34,47,49,56,63,76] 60 rH (au rH) ⟨aM 0 [.rat q n,.rat r m],[],0⟩=
  let c14 : aa (List AV) := aa.leaf ah.ret [int IntKind.i64 (0 : Int)]; let c13 : Nat := q.num.natAbs; let c12 : Nat := r.num.natAbs; let c11 : aa (List AV) := aa.leaf ah.ret [int IntKind.i64 (1 : Int)]; let c10 : Bool := decide (q < 0); let c9 : aa (List AV) := aa.leaf ah.ret [int IntKind.i64 (-1 : Int)]; let c8 : Nat := if r.den = 1 then 0 else r.den; let c7 : Nat := if q.den = 1 then 0 else q.den; let c6 : Nat := 2 ^ 40; let c5 : Prop := 0 < 1; let c15 : Int := bY (c13 * r.den) (c12 * q.den); let c4 : Int := IntKind.u64.wrap ((↑(if cM q = true then c13 else 0) : Int) * (↑(if cM r = true then r.den else 0) : Int)); let c3 : Int := IntKind.u64.wrap ((↑(if cM r = true then c12 else 0) : Int) * (↑(if cM q = true then q.den else 0) : Int)); let c2 : aa (List AV) := aa.ag [c5, c5, nl c13 < c6, nl r.den < c6, c5, c5, nl c12 < c6, nl q.den < c6, nl (c13 * r.den) < c6, nl (c12 * q.den) < c6] (aa.ag [c5] (aa.fork c10 (aa.leaf ah.ret [int IntKind.i64 (IntKind.i64.wrap ((0 : Int) - c15))]) (aa.leaf ah.ret [int IntKind.i64 c15]))); let c1 : aa (List AV) := aa.fork (decide (c4 < c3)) (aa.ag [c5] (aa.fork c10 c11 c9)) (aa.fork (decide (c4 > c3)) (aa.ag [c5] (aa.fork c10 c9 c11)) (aa.ag [c5] (aa.fork c10 c14 c14))); some (aa.ag [c5, n < 2 ^ 44, c5, m < 2 ^ 44] (aa.fork (dx q != dx r) (aa.fork (decide (dx q < dx r)) c9 c11) (aa.ag [c5] (aa.ag [c5, c5, nl c7 < c6, nl c8 < c6] (aa.fork (decide (c7 = c8)) (aa.ag [c5, c5, nl c13 < c6, nl c12 < c6] (aa.ag [c5] (aa.fork c10 (aa.leaf ah.ret [int IntKind.i64 (IntKind.i64.wrap ((0 : Int) - bY c13 c12))]) (aa.leaf ah.ret [int IntKind.i64 (bY c13 c12)])))) (aa.ag [c5] (aa.fork (cM q) (aa.ag [cM q = true] (aa.fork (bif true then cM r else false) c1 c2)) (aa.ag [cM q = false] (aa.fork false c1 c2))))))))) := by kernel_rfl
theorem Yj:∀K args pre r,FT K args pre=some r→aB P vp K args pre r:=by
 refine bL fun K args r hk hs _=>?_
 split at hs
 ·simp only[Option.some.injEq]at hs
  subst hs
  exact fun need=>X5 need.1 need.2 K [] trivial
 ·simp at hs
theorem xD {q r:Rat} (h:dx q≠dx r):dS q r=if dx q<dx r then-1 else 1:=by
 unfold dx dS at*
 grind
theorem P4 {a b:Nat}:-bY a b=bY b a:=by unfold bY;split<;>split<;>omega
theorem Gi {a b k:Nat} (hk:0<k):bY (a*k) (b*k)=bY a b:=by
 unfold bY
 simp only[Nat.mul_lt_mul_right hk]
theorem yK {a b:Nat}:IntKind.i64.wrap (0-bY a b)=-bY a b:=by
 have:bY a b=-1∨bY a b=0∨bY a b=1:=by unfold bY;split;exact .inl rfl;split;exact .inr (.inr rfl);exact .inr (.inl rfl)
 rcases this with h|h|h<;>rw[h]<;>rfl
theorem kD {q r:Rat} (h:dx q=dx r):dS q r=if q<0 then-bY (q.num.natAbs*r.den) (r.num.natAbs*q.den)else bY (q.num.natAbs*r.den) (r.num.natAbs*q.den):=by
 have h1:q<0↔r<0:=by unfold dx at h;grind
 have e1:∀{a b:Nat},(-(a:Int))*(b:Int)=-((a*b:Nat):Int):=fun {a b}=>by simp[Int.neg_mul]
 have e2:∀{a b:Nat},(a:Int)*(b:Int)=((a*b:Nat):Int):=fun {a b}=>by simp
 unfold dS
 by_cases hq:q<0
 ·have hr:=h1.1 hq
  have q1:q.num=-(q.num.natAbs:Int):=by have:=fW.1 hq;omega
  have r1:r.num=-(r.num.natAbs:Int):=by have:=fW.1 hr;omega
  have l1:q<r↔r.num.natAbs*q.den<q.num.natAbs*r.den:=by
   rw[Rat.lt_iff]
   conv=>lhs;rw[q1,r1,e1,e1]
   omega
  have l2:r<q↔q.num.natAbs*r.den<r.num.natAbs*q.den:=by
   rw[Rat.lt_iff]
   conv=>lhs;rw[q1,r1,e1,e1]
   omega
  rw[if_pos hq,P4]
  unfold bY
  simp only[l1,l2]
 ·have hr:¬r<0:=fun h=>hq (h1.2 h)
  have q1:q.num=(q.num.natAbs:Int):=by have:¬q.num<0:=fun h=>hq (fW.2 h);omega
  have r1:r.num=(r.num.natAbs:Int):=by have:¬r.num<0:=fun h=>hr (fW.2 h);omega
  have l1:q<r↔q.num.natAbs*r.den<r.num.natAbs*q.den:=by
   rw[Rat.lt_iff]
   conv=>lhs;rw[q1,r1,e2,e2]
   omega
  have l2:r<q↔r.num.natAbs*q.den<q.num.natAbs*r.den:=by
   rw[Rat.lt_iff]
   conv=>lhs;rw[q1,r1,e2,e2]
   omega
  rw[if_neg hq]
  unfold bY
  simp only[l1,l2]
theorem AN {q r:Rat} {n m:Nat} (hn:n<2^42) (hm':m<2^42) (K:Nat) (pre:aA):aB P hJ K [.rat q n,.rat r m] pre (aG (.int .i64 (dS q r)) []):=by
 refine gE fun⟨hq,hr,_⟩=>?_
 have hq:Sz q n:=hq
 have hr:Sz r m:=hr
 obtain⟨a1,a2,a3⟩:=Sz.gk hq (by omega)
 obtain⟨b1,b2,b3⟩:=Sz.gk hr (by omega)
 have d1:=q.den_nz
 have d2:=r.den_nz
 have m1:nl (q.num.natAbs*r.den)<2^40:=g9 (n:=n+m) (by rw[Nat.pow_add];exact Nat.mul_lt_mul'' hq.1 hr.2) (by omega)
 have m2:nl (r.num.natAbs*q.den)<2^40:=g9 (n:=m+n) (by rw[Nat.pow_add];exact Nat.mul_lt_mul'' hr.1 hq.2) (by omega)
 refine bE hT iK hm Lc rfl (of_decide_eq_true (by kernel_rfl)) rfl 60 Vt (fun _=>?_) K pre
 simp only[aa.all,az,bne_iff_ne,ne_eq,bne_eq_false_iff_eq]
 refine⟨⟨by omega,by omega,by omega,by omega⟩,fun hs=>⟨fun hl=>bh ?_,fun hl=>bh ?_⟩,fun hs=>⟨by omega,⟨by omega,by omega,a3,b3⟩,fun hd=>⟨⟨by omega,by omega,a1,b1⟩,by omega,fun hc=>bh ?_,fun hc=>bh ?_⟩,fun hd=>⟨by omega,fun hp=>⟨hp,fun hp2=>?_,fun hp2=>⟨⟨by omega,by omega,a1,b2,by omega,by omega,b1,a2,m1,m2⟩,by omega,fun hc=>bh ?_,fun hc=>bh ?_⟩⟩,fun hp=>⟨hp,fun h=>by simp at h,fun _=>⟨⟨by omega,by omega,a1,b2,by omega,by omega,b1,a2,m1,m2⟩,by omega,fun hc=>bh ?_,fun hc=>bh ?_⟩⟩⟩⟩⟩
 ·rw[xD hs,if_pos (of_decide_eq_true hl)]
 ·rw[xD hs,if_neg (of_decide_eq_false hl)]
 ·have hd:=of_decide_eq_true hd
  have e:q.den=r.den:=by split at hd<;>split at hd<;>omega
  rw[kD hs,if_pos (of_decide_eq_true hc),e,Gi (by omega),yK]
 ·have hd:=of_decide_eq_true hd
  have e:q.den=r.den:=by split at hd<;>split at hd<;>omega
  rw[kD hs,if_neg (of_decide_eq_false hc),e,Gi (by omega)]
 ·have hp2:=gx hp2
  obtain⟨q1,q2⟩:=mz hp
  obtain⟨r1,r2⟩:=mz hp2
  rw[if_pos hp,if_pos hp2,if_pos hp2,if_pos hp,(j3 q1 r2).1,(j3 r1 q2).1]
  have hcs:=kD hs
  generalize q.num.natAbs*r.den=X at*
  generalize r.num.natAbs*q.den=Y at*
  unfold bY at hcs
  refine⟨fun h1=>⟨by omega,fun hc=>bh ?_,fun hc=>bh ?_⟩,fun h1=>⟨fun h2=>⟨by omega,fun hc=>bh ?_,fun hc=>bh ?_⟩,fun h2=>⟨by omega,fun hc=>bh ?_,fun hc=>bh ?_⟩⟩⟩
  all_goals rw[hcs]
  ·rw[if_pos (of_decide_eq_true hc),if_pos (by have:=of_decide_eq_true h1;omega)];rfl
  ·rw[if_neg (of_decide_eq_false hc),if_pos (by have:=of_decide_eq_true h1;omega)]
  ·rw[if_pos (of_decide_eq_true hc),if_neg (by have:=of_decide_eq_false h1;omega),if_pos (by have:=of_decide_eq_true h2;omega)]
  ·rw[if_neg (of_decide_eq_false hc),if_neg (by have:=of_decide_eq_false h1;omega),if_pos (by have:=of_decide_eq_true h2;omega)]
  ·rw[if_pos (of_decide_eq_true hc),if_neg (by have:=of_decide_eq_false h1;omega),if_neg (by have:=of_decide_eq_false h2;omega)];rfl
  ·rw[if_neg (of_decide_eq_false hc),if_neg (by have:=of_decide_eq_false h1;omega),if_neg (by have:=of_decide_eq_false h2;omega)]
 ·rw[kD hs,if_pos (of_decide_eq_true hc),yK]
 ·rw[kD hs,if_neg (of_decide_eq_false hc)]
 ·rw[kD hs,if_pos (of_decide_eq_true hc),yK]
 ·rw[kD hs,if_neg (of_decide_eq_false hc)]
theorem KY:∀K args pre r,CV K args pre=some r→aB P hJ K args pre r:=by
 refine bL fun K args r hk hs _=>?_
 split at hs
 ·simp only[Option.some.injEq]at hs
  subst hs
  exact fun need=>AN need.1 need.2 K [] trivial
 ·simp at hs
theorem SO:∀K args pre r,zY.2 K args pre=some r→aB P zY.1 K args pre r:=U4
theorem ry:bp P GA:=aK Yj (aK KY (aK SO (aK Wx (aK Iu (aK Dv br)))))
section ops
variable {q r:Rat} {n m:Nat}
theorem Fa (hn:n<2^42) (hm':m<2^42) (K:Nat):aB P tu K [.rat q n,.rat r m] [] (aG (.rat (q+r) (n+m+1)) []):=by
 refine bE hT ry hm RD rfl (of_decide_eq_true (by kernel_rfl)) rfl 60 Te (fun _=>?_) K []
 simp only[aa.all,az,iq]
 exact⟨⟨by omega,by omega,by omega,hn,hm',by omega⟩,by omega,.refl _⟩
theorem Rj (r:Rat):sQ (!decide (r<0)) r.num.natAbs r.den=-r:=by
 have h:=iq r
 conv=>rhs;rw[←h]
 unfold sQ
 rw[Rat.neg_mkRat]
 congr 1
 unfold ej
 by_cases h:r<0<;>simp[h]
theorem HY (hn:n<2^42) (hm':m<2^42) (K:Nat):aB P qA K [.rat q n,.rat r m] [] (aG (.rat (q-r) (n+m+1)) []):=by
 refine bE hT ry hm VA rfl (of_decide_eq_true (by kernel_rfl)) rfl 60 T8 (fun _=>?_) K []
 simp only[aa.all,az,Rj]
 exact⟨⟨by omega,by omega,by omega,hn,hm',by omega⟩,by omega,cD (by rw[Rat.sub_eq_add_neg])⟩
def wI (q r:Rat):Rat:=if r<q then r else q
def xp (q r:Rat):Rat:=if q<r then r else q
theorem lG {q r:Rat}:dS q r<0↔q<r:=by unfold dS;grind
theorem uW {q r:Rat}:dS q r>0↔r<q:=by unfold dS;grind
theorem Qr (hn:n<2^42) (hm':m<2^42) (K:Nat):aB P yN K [.rat q n,.rat r m] [] (aG (.rat (wI q r) (max n m)) []):=by
 refine bE hT ry hm RK rfl (of_decide_eq_true (by kernel_rfl)) rfl 60 Tt (fun _=>?_) K []
 simp only[aa.all,az,decide_eq_true_eq,decide_eq_false_iff_not,lG]
 refine⟨⟨by omega,by omega,hm',hn⟩,fun h=>⟨⟨by omega,by omega⟩,⟨by omega,by omega,by omega⟩,by omega,?_⟩,fun h=>⟨⟨by omega,by omega,by omega⟩,by omega,?_⟩⟩
 ·unfold wI;rw[if_pos h];exact en (Nat.le_max_right _ _)
 ·unfold wI;rw[if_neg h];exact en (Nat.le_max_left _ _)
theorem Xc (hn:n<2^42) (hm':m<2^42) (K:Nat):aB P wC K [.rat q n,.rat r m] [] (aG (.rat (xp q r) (max n m)) []):=by
 refine bE hT ry hm XA rfl (of_decide_eq_true (by kernel_rfl)) rfl 60 Oj (fun _=>?_) K []
 simp only[aa.all,az,decide_eq_true_eq,decide_eq_false_iff_not,uW]
 refine⟨⟨by omega,by omega,hm',hn⟩,fun h=>⟨⟨by omega,by omega⟩,⟨by omega,by omega,by omega⟩,by omega,?_⟩,fun h=>⟨⟨by omega,by omega,by omega⟩,by omega,?_⟩⟩
 ·unfold xp;rw[if_pos h];exact en (Nat.le_max_right _ _)
 ·unfold xp;rw[if_neg h];exact en (Nat.le_max_left _ _)
theorem Zg {n:Int}:sQ (decide (n<0)) n.natAbs 1=(n:Rat):=by
 unfold sQ
 have:ej (decide (n<0)) n.natAbs=n:=by unfold ej;by_cases h:n<0<;>simp[h]<;>omega
 rw[this,Rat.mkRat_one]
theorem Em {n:Int}:Sz (n:Rat) (max 1 (aY n.natAbs)):=by
 refine⟨?_,?_⟩
 ·rw[Rat.num_intCast]
  exact Nat.lt_of_lt_of_le (gp.1 (Nat.le_refl _)) (Nat.pow_le_pow_right (by omega) (Nat.le_max_right _ _))
 ·rw[Rat.den_intCast]
  exact Nat.lt_of_lt_of_le (show 1<2^1 by omega) (Nat.pow_le_pow_right (by omega) (Nat.le_max_left _ _))
theorem BY {n:Int} (h1:-2^63≤n) (h2:n<2^63) (K:Nat):aB P oe K [.int .i64 n] [] (aG (.rat (n:Rat) (max 1 (aY n.natAbs))) []):=by
 refine bE hT ry hm Mb rfl (of_decide_eq_true (by kernel_rfl)) rfl 60 RN (fun _=>?_) K []
 simp only[aa.all,az,Zg]
 exact⟨⟨h1,h2,g9 (n:=64) (by omega) (by omega),by decide,by omega⟩,by omega,fj rfl Em⟩
theorem Gs (hn:n<2^42) (hm':m<2^42) (K:Nat):aB P rI K [.rat q n,.rat r m] [] (aG (.rat (q*r) (n+m)) []):=by
 refine gE fun⟨hq,hr,_⟩=>?_
 have hq:Sz q n:=hq
 have hr:Sz r m:=hr
 obtain⟨a1,a2,a3⟩:=Sz.gk hq (by omega)
 obtain⟨b1,b2,b3⟩:=Sz.gk hr (by omega)
 have d1:=q.den_nz
 have d2:=r.den_nz
 have m1:nl (q.num.natAbs*r.num.natAbs)<2^40:=g9 (n:=n+m) (by rw[Nat.pow_add];exact Nat.mul_lt_mul'' hq.1 hr.1) (by omega)
 have m2:nl (q.den*r.den)<2^40:=g9 (n:=n+m) (by rw[Nat.pow_add];exact Nat.mul_lt_mul'' hq.2 hr.2) (by omega)
 have hz:=hq.mul hr
 have hv:sQ (decide (q<0)!=decide (r<0)) (q.num.natAbs*r.num.natAbs) (q.den*r.den)=q*r:=by rw[←z9,iq,iq]
 have hzero:q=0∨r=0→bt (.agg [.bool false,.mag 0,.mag 0]) (.rat (q*r) (n+m)):=by
  intro h
  have e:q*r=0:=by rcases h with h|h<;>subst h<;>simp
  obtain⟨k,hk⟩:∃k,n+m=k+1:=⟨n+m-1,by have:=hq.pos;omega⟩
  rw[e,hk];exact jH
 refine bE hT iK hm VJ rfl (of_decide_eq_true (by kernel_rfl)) rfl 60 Jy (fun _=>?_) K []
 have hlong:(aa.ag
         [(0:Nat)<1,(0:Nat)<1,(0:Nat)<1,(0:Nat)<1,nl q.num.natAbs<2^40,nl r.num.natAbs<2^40,(0:Nat)<1,(0:Nat)<1,nl q.den<2^40,nl r.den<2^40,nl (q.num.natAbs*r.num.natAbs)<2^40,nl (q.den*r.den)<2^40,(0:Nat)<1]
         (aa.ag [(0:Nat)<1]
          (aa.leaf ah.ret
           [AV.rat (sQ (decide (q<(0:Rat))!=decide (r<(0:Rat))) (q.num.natAbs*r.num.natAbs) (q.den*r.den))
             (bV (sQ (decide (q<(0:Rat))!=decide (r<(0:Rat))) (q.num.natAbs*r.num.natAbs) (q.den*r.den)))]))).all fun _ us=>dY us (.rat (q*r) (n+m)):=by
  simp only[aa.all,az]
  exact⟨⟨by omega,by omega,by omega,by omega,a1,b1,by omega,by omega,a2,b2,m1,m2,by omega⟩,by omega,fj hv hz⟩
 refine⟨fun hb=>⟨⟨show 0<1 by omega,hb⟩,fun _=>⟨show 0<1 by omega,show 0<1 by omega,hzero (.inl ?_)⟩,fun h=>by simp at h⟩,fun hb=>⟨⟨show 0<1 by omega,hb,show 0<1 by omega⟩,fun hc=>⟨show 0<1 by omega,show 0<1 by omega,hzero (.inr ?_)⟩,fun hc=>⟨show 0<1 by omega,fun h1=>⟨show 0<1 by omega,fun h2=>?_,fun h2=>hlong⟩,fun h1=>hlong⟩⟩⟩
 ·have:=eq_of_beq hb
  exact k8.1 (gm.1 (by omega))
 ·have:=eq_of_beq (fE hc)
  exact k8.1 (gm.1 (by omega))
 ·obtain⟨q1,q2⟩:=mz h1
  obtain⟨r1,r2⟩:=mz h2
  obtain⟨wx,bx⟩:=j3 q1 r1
  obtain⟨wd,bd⟩:=j3 q2 r2
  have hd0:q.den*r.den≠0:=Nat.mul_ne_zero d1 d2
  rw[if_pos h1,if_pos h2,if_pos h1,if_pos h2,wx,wd]
  simp only[aa.all,az,Int.toNat_natCast]
  exact⟨⟨by omega,by omega,by omega,by omega,by omega⟩,by omega,fj hv hz⟩
theorem Df (q r:Rat) (hr:r≠0):sQ (decide (q<0)!=decide (r<0)) (q.num.natAbs*r.den) (q.den*r.num.natAbs)=q/r:=by
 have hn:r.num≠0:=fun h=>hr (Rat.num_eq_zero.1 h)
 have hi:r⁻¹=sQ (decide (r<0)) r.den r.num.natAbs:=by
  rw[←iq r⁻¹]
  have e1:r⁻¹.num.natAbs=r.den:=by rw[Rat.num_inv,Int.natAbs_mul,Int.natAbs_natCast,Int.natAbs_sign_of_ne_zero hn,Nat.one_mul]
  have e2:r⁻¹.den=r.num.natAbs:=by rw[Rat.den_inv,if_neg hn]
  have e3:decide (r⁻¹<0)=decide (r<0):=by
   rw[decide_eq_decide,fW,fW,Rat.num_inv]
   have hd:=r.den_nz
   have hd':(0:Int)<(r.den:Int):=by omega
   rcases Int.lt_trichotomy r.num 0 with h|h|h
   ·rw[Int.sign_eq_neg_one_of_neg h];omega
   ·exact absurd h hn
   ·rw[Int.sign_eq_one_of_pos h];omega
  rw[e1,e2,e3]
 rw[Rat.div_def,hi]
 conv=>rhs;rw[←iq q]
 rw[z9]
theorem Bx (hn:n<2^42) (hm':m<2^42) (K:Nat):aB P pU K [.rat q n,.rat r m] [] (aG (.tuple [.rat (q/r) (n+m),.int .i64 (if r=0 then 3 else 0)]) []):=by
 refine gE fun⟨hq,hr,_⟩=>?_
 have hq:Sz q n:=hq
 have hr:Sz r m:=hr
 obtain⟨a1,a2,a3⟩:=Sz.gk hq (by omega)
 obtain⟨b1,b2,b3⟩:=Sz.gk hr (by omega)
 have d1:=q.den_nz
 have d2:=r.den_nz
 have m1:nl (q.num.natAbs*r.den)<2^40:=g9 (n:=n+m) (by rw[Nat.pow_add];exact Nat.mul_lt_mul'' hq.1 hr.2) (by omega)
 have m2:nl (q.den*r.num.natAbs)<2^40:=g9 (n:=n+m) (by rw[Nat.pow_add];exact Nat.mul_lt_mul'' hq.2 hr.1) (by omega)
 have hz:=hq.div hr
 have sg:∀{x:Rat},dx x=0↔x=0:=by intro x;unfold dx;grind
 refine bE hT iK hm OO rfl (of_decide_eq_true (by kernel_rfl)) rfl 60 Xo (fun _=>?_) K []
 refine⟨⟨show 0<1 by omega,show m<2^44 by omega⟩,fun hb=>⟨show 0<1 by omega,show 0<1 by omega,?_,?_,trivial⟩,fun hb=>⟨show 0<1 by omega,?_⟩⟩
 ·have h0:r=0:=sg.1 (eq_of_beq hb)
  have e:q/r=0:=by rw[h0,Rat.div_def,Rat.inv_zero,Rat.mul_zero]
  obtain⟨k,hk⟩:∃k,n+m=k+1:=⟨n+m-1,by have:=hq.pos;omega⟩
  rw[e,hk];exact jH
 ·have h0:r=0:=sg.1 (eq_of_beq hb)
  exact bh (by rw[if_pos h0])
 have h0:r≠0:=fun h=>by
  rw[h]at hb
  simp[dx]at hb
 have hv:=Df q r h0
 have he:bt (.int .i64 0) (.int .i64 (if r=0 then 3 else 0)):=bh (by rw[if_neg h0])
 have hlong:(aa.ag
         [(0:Nat)<1,(0:Nat)<1,(0:Nat)<1,(0:Nat)<1,nl q.num.natAbs<2^40,nl r.den<2^40,(0:Nat)<1,(0:Nat)<1,nl q.den<2^40,nl r.num.natAbs<2^40,nl (q.num.natAbs*r.den)<2^40,nl (q.den*r.num.natAbs)<2^40,(0:Nat)<1]
         (aa.ag [(0:Nat)<1]
          (aa.leaf ah.ret
           [AV.rat (sQ (decide (q<(0:Rat))!=decide (r<(0:Rat))) (q.num.natAbs*r.den) (q.den*r.num.natAbs))
             (bV (sQ (decide (q<(0:Rat))!=decide (r<(0:Rat))) (q.num.natAbs*r.den) (q.den*r.num.natAbs))),.int .i64 0]))).all fun _ us=>dY us (.tuple [.rat (q/r) (n+m),.int .i64 (if r=0 then 3 else 0)]):=by
  simp only[aa.all,az]
  exact⟨⟨by omega,by omega,by omega,by omega,a1,b2,by omega,by omega,a2,b1,m1,m2,by omega⟩,by omega,fj hv hz,he,trivial⟩
 refine⟨fun h1=>⟨show 0<1 by omega,fun h2=>?_,fun h2=>hlong⟩,fun h1=>hlong⟩
 obtain⟨q1,q2⟩:=mz h1
 obtain⟨r1,r2⟩:=mz h2
 obtain⟨wx,bx⟩:=j3 q1 r2
 obtain⟨wd,bd⟩:=j3 q2 r1
 have hr0:r.num.natAbs≠0:=fun h=>h0 (k8.1 h)
 have hd0:q.den*r.num.natAbs≠0:=Nat.mul_ne_zero d1 hr0
 rw[if_pos h1,if_pos h2,if_pos h1,if_pos h2,wx,wd]
 simp only[aa.all,az,Int.toNat_natCast]
 exact⟨⟨by omega,by omega,by omega,by omega,by omega⟩,by omega,fj hv hz,he,trivial⟩
end ops
def EW:Spec:=bq fun l=>match l with
 |[.int .i64 n]=>some (aG (.rat (n:Rat) (max 1 (aY n.natAbs))) [-2^63≤n,n<2^63])
 |_=>none
theorem IT:∀K args pre r,EW K args pre=some r→aB P oe K args pre r:=by
 refine bL fun K args r hk hs _=>?_
 split at hs
 ·simp only[Option.some.injEq]at hs
  subst hs
  exact fun need=>BY need.1 need.2 K trivial
 ·simp at hs
end Go.Am.B
