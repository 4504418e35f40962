/- rational. -/
import Derived.Test.YtppeigelbecpbaaGreatB20
set_option linter.unusedVariables false
namespace Go.Am.B
open Go Go.Am.N AV
theorem ajl:aT P E5 DX (aA DX):=aY Proofs.Tryz.func120 ag ag ag
theorem akE:aT P EB Bw (aA Bw):=aY Proofs.Tryz.func119 ag ag ag
theorem afx:aT P KA ED (aA ED):=aY Proofs.Tryz.func201 ag ag ag
theorem ZD:aT P Gz CY (aA CY):=aY Proofs.Tryz.func202 ag ag ag
theorem WV:aT P vH DJ (aA DJ):=aY Proofs.Tryz.func190 ag ag ag
def S8:Spec:=bX fun l=>match l with
 |[.rat q n,.rat r m,.bool s]=>some (aK (.rat (q+sQ s r.num.natAbs r.den) (n+m+1)) [n<2^42,m<2^42])
 |_=>none
def Sm:Spec:=bX fun l=>match l with
 |[.rat q n,.rat r m]=>some (aK (.int .i64 (dM q r)) [n<2^42,m<2^42])
 |_=>none
abbrev J9:FuncId×Spec:=(DN,Nc)
def GA:bg:=(Gf,S8)::(lz,Sm)::J9::(BH,M8)::(yU,Jc)::(Ak,HW)::[]
theorem WS {q r:Rat} {n m:Nat}:bW T GA [] 60 DX (aA DX) ⟨aQ 0 [.rat q n,.rat r m],[],0⟩=
  let c1:Prop:=0<1;some (ah.aj [c1,c1,c1,n<2^42,m<2^42,c1] (ah.aj [c1] (ah.leaf au.ret [rat (q+sQ (decide (r<0)) r.num.natAbs r.den) (n+m+1)]))):=ag
theorem aao {q r:Rat} {n m:Nat}:bW T GA [] 60 Bw (aA Bw) ⟨aQ 0 [.rat q n,.rat r m],[],0⟩=
  let c1:Prop:=0<1;some (ah.aj [c1,c1,c1,n<2^42,m<2^42,c1] (ah.aj [c1] (ah.leaf au.ret [rat (q+sQ (!decide (r<0)) r.num.natAbs r.den) (n+m+1)]))):=ag
theorem agX {q r:Rat} {n m:Nat}:bW T GA [8] 60 ED (aA ED) ⟨aQ 0 [.rat q n,.rat r m],[],0⟩=
  let c1:Prop:=0<1;some (ah.aj [c1,c1,m<2^42,n<2^42] (ah.fork (decide (dM r q<(0:Int))) (ah.aj [c1,c1] (ah.aj [c1,m<2^44,c1] (ah.aj [c1] (ah.leaf au.ret [rat r m])))) (ah.aj [c1,n<2^44,c1] (ah.aj [c1] (ah.leaf au.ret [rat q n]))))):=ag
theorem agu {q r:Rat} {n m:Nat}:bW T GA [8] 60 CY (aA CY) ⟨aQ 0 [.rat q n,.rat r m],[],0⟩=
  let c1:Prop:=0<1;some (ah.aj [c1,c1,m<2^42,n<2^42] (ah.fork (decide (dM r q>(0:Int))) (ah.aj [c1,c1] (ah.aj [c1,m<2^44,c1] (ah.aj [c1] (ah.leaf au.ret [rat r m])))) (ah.aj [c1,n<2^44,c1] (ah.aj [c1] (ah.leaf au.ret [rat q n]))))):=ag
theorem T4 {n:Int}:bW T GA [] 60 DJ (aA DJ) ⟨aQ 0 [.int .i64 n],[],0⟩=
  let c1:Rat:=sQ (decide (n<(0:Int))) n.natAbs 1;some (ah.aj [-(2:Int)^63<=n,n<(2:Int)^63,nl n.natAbs<2^40,nl 1<2^40,(0:Nat)<1] (ah.aj [(0:Nat)<1] (ah.leaf au.ret [rat c1 (cS c1)]))):=ag
theorem afO {q r:Rat} {n m:Nat}:bW T GQ [20,23,34,47,49,56,63,76] 60 Dk (aA Dk) ⟨aQ 0 [.rat q n,.rat r m],[],0⟩=
  let c14 : ah (List AV) := ah.leaf au.ret [int IntKind.i64 (0 : Int)]; let c13 : Nat := q.num.natAbs; let c12 : Nat := r.num.natAbs; let c11 : ah (List AV) := ah.leaf au.ret [int IntKind.i64 (1 : Int)]; let c10 : Bool := decide (q < 0); let c9 : ah (List AV) := ah.leaf au.ret [int IntKind.i64 (-1 : Int)]; let c8 : Nat := if r.den = 1 then 0 else r.den; let c7 : Nat := if q.den = 1 then 0 else q.den; let c6 : Nat := 2 ^ 40; let c5 : Prop := 0 < 1; let c15 : Int := cX (c13 * r.den) (c12 * q.den); let c4 : Int := IntKind.u64.wrap ((↑(if dX q = true then c13 else 0) : Int) * (↑(if dX r = true then r.den else 0) : Int)); let c3 : Int := IntKind.u64.wrap ((↑(if dX r = true then c12 else 0) : Int) * (↑(if dX q = true then q.den else 0) : Int)); let c2 : ah (List AV) := ah.aj [c5, c5, nl c13 < c6, nl r.den < c6, c5, c5, nl c12 < c6, nl q.den < c6, nl (c13 * r.den) < c6, nl (c12 * q.den) < c6] (ah.aj [c5] (ah.fork c10 (ah.leaf au.ret [int IntKind.i64 (IntKind.i64.wrap ((0 : Int) - c15))]) (ah.leaf au.ret [int IntKind.i64 c15]))); let c1 : ah (List AV) := ah.fork (decide (c4 < c3)) (ah.aj [c5] (ah.fork c10 c11 c9)) (ah.fork (decide (c4 > c3)) (ah.aj [c5] (ah.fork c10 c9 c11)) (ah.aj [c5] (ah.fork c10 c14 c14))); some (ah.aj [c5, n < 2 ^ 44, c5, m < 2 ^ 44] (ah.fork (eW q != eW r) (ah.fork (decide (eW q < eW r)) c9 c11) (ah.aj [c5] (ah.aj [c5, c5, nl c7 < c6, nl c8 < c6] (ah.fork (decide (c7 = c8)) (ah.aj [c5, c5, nl c13 < c6, nl c12 < c6] (ah.aj [c5] (ah.fork c10 (ah.leaf au.ret [int IntKind.i64 (IntKind.i64.wrap ((0 : Int) - cX c13 c12))]) (ah.leaf au.ret [int IntKind.i64 (cX c13 c12)])))) (ah.aj [c5] (ah.fork (dX q) (ah.aj [dX q = true] (ah.fork (bif true then dX r else false) c1 c2)) (ah.aj [dX q = false] (ah.fork false c1 c2))))))))) := ag
theorem WR:∀K args pre r,S8 K args pre=some r->aE P Gf K args pre r:=by
 refine cK fun K args r hk hs _=>?_
 split at hs
 ·simp only[ay]at hs
  subst hs
  exact fun need=>adE need.1 need.2 K [] trivial
 ·simp at hs
theorem EU {q r:Rat} (h:eW q≠eW r):dM q r=if eW q<eW r then-1 else 1:=by
 unfold eW dM at*
 grind
theorem agz {a b:Nat}:-cX a b=cX b a:=by unfold cX;split<;>split<;>omega
theorem L7 {a b k:Nat} (hk:0<k):cX (a*k) (b*k)=cX a b:=by
 unfold cX
 simp only[Nat.mul_lt_mul_right hk]
theorem CM {a b:Nat}:IntKind.i64.wrap (0-cX a b)=-cX a b:=by
 have:cX a b=-1\/cX a b=0\/cX a b=1:=by unfold cX;split;exact .inl rfl;split;exact .inr (.inr rfl);exact .inr (.inl rfl)
 rcases this with h|h|h<;>rw[h]<;>rfl
theorem pE {q r:Rat} (h:eW q=eW r):dM q r=if q<0 then-cX (q.num.natAbs*r.den) (r.num.natAbs*q.den)else cX (q.num.natAbs*r.den) (r.num.natAbs*q.den):=by
 have h1:q<0↔r<0:=by unfold eW at h;grind
 have e1:∀{a b:Nat},(-(a:Int))*(b:Int)=-((a*b:Nat):Int):=fun {a b}=>by simp[Int.neg_mul]
 have e2:∀{a b:Nat},(a:Int)*(b:Int)=((a*b:Nat):Int):=fun {a b}=>by simp
 unfold dM
 by_cases hq:q<0
 ·have hr:=h1.1 hq
  have q1:q.num=-(q.num.natAbs:Int):=by have:=iS.1 hq;omega
  have r1:r.num=-(r.num.natAbs:Int):=by have:=iS.1 hr;omega
  have l1:q<r↔r.num.natAbs*q.den<q.num.natAbs*r.den:=by
   rw[Rat.lt_iff]
   conv=>lhs;rw[q1,r1,e1,e1]
   omega
  have l2:r<q↔q.num.natAbs*r.den<r.num.natAbs*q.den:=by
   rw[Rat.lt_iff]
   conv=>lhs;rw[q1,r1,e1,e1]
   omega
  rw[if_pos hq,agz]
  unfold cX
  simp only[l1,l2]
 ·have hr:¬r<0:=fun h=>hq (h1.2 h)
  have q1:q.num=(q.num.natAbs:Int):=by have:¬q.num<0:=fun h=>hq (iS.2 h);omega
  have r1:r.num=(r.num.natAbs:Int):=by have:¬r.num<0:=fun h=>hr (iS.2 h);omega
  have l1:q<r↔q.num.natAbs*r.den<r.num.natAbs*q.den:=by
   rw[Rat.lt_iff]
   conv=>lhs;rw[q1,r1,e2,e2]
   omega
  have l2:r<q↔r.num.natAbs*q.den<q.num.natAbs*r.den:=by
   rw[Rat.lt_iff]
   conv=>lhs;rw[q1,r1,e2,e2]
   omega
  rw[if_neg hq]
  unfold cX
  simp only[l1,l2]
theorem Gt {q r:Rat} {n m:Nat} (hn:n<2^42) (hm':m<2^42) (K:Nat) (pre:aF):aE P lz K [.rat q n,.rat r m] pre (aK (.int .i64 (dM q r)) []):=by
 refine jn fun⟨hq,hr,_⟩=>?_
 have hq:Sz q n:=hq
 have hr:Sz r m:=hr
 obtain⟨a1,a2,a3⟩:=Sz.jz hq aa
 obtain⟨b1,b2,b3⟩:=Sz.jz hr aa
 have d1:=q.den_nz
 have d2:=r.den_nz
 have m1:nl (q.num.natAbs*r.den)<2^40:=jh (n:=n+m) (by rw[Nat.pow_add];exact Nat.mul_lt_mul'' hq.1 hr.2) aa
 have m2:nl (r.num.natAbs*q.den)<2^40:=jh (n:=m+n) (by rw[Nat.pow_add];exact Nat.mul_lt_mul'' hr.1 hq.2) aa
 refine cj hT mB hm age rfl aX rfl 60 afO (fun _=>?_) K pre
 simp only[ah.all,az,bne_iff_ne,ne_eq,bne_eq_false_iff_eq]
 refine⟨⟨aa,aa,aa,aa⟩,fun hs=>⟨fun hl=>bQ ?_,fun hl=>bQ ?_⟩,fun hs=>⟨aa,⟨aa,aa,a3,b3⟩,fun hd=>⟨⟨aa,aa,a1,b1⟩,aa,fun hc=>bQ ?_,fun hc=>bQ ?_⟩,fun hd=>⟨aa,fun hp=>⟨hp,fun hp2=>?_,fun hp2=>⟨⟨aa,aa,a1,b2,aa,aa,b1,a2,m1,m2⟩,aa,fun hc=>bQ ?_,fun hc=>bQ ?_⟩⟩,fun hp=>⟨hp,fun h=>by simp at h,fun _=>⟨⟨aa,aa,a1,b2,aa,aa,b1,a2,m1,m2⟩,aa,fun hc=>bQ ?_,fun hc=>bQ ?_⟩⟩⟩⟩⟩
 ·rw[EU hs,if_pos (of_decide_eq_true hl)]
 ·rw[EU hs,if_neg (of_decide_eq_false hl)]
 ·have hd:=of_decide_eq_true hd
  have e:q.den=r.den:=by split at hd<;>split at hd<;>omega
  rw[pE hs,if_pos (of_decide_eq_true hc),e,L7 aa,CM]
 ·have hd:=of_decide_eq_true hd
  have e:q.den=r.den:=by split at hd<;>split at hd<;>omega
  rw[pE hs,if_neg (of_decide_eq_false hc),e,L7 aa]
 ·have hp2:=jv hp2
  obtain⟨q1,q2⟩:=qG hp
  obtain⟨r1,r2⟩:=qG hp2
  rw[if_pos hp,if_pos hp2,if_pos hp2,if_pos hp,(pH q1 r2).1,(pH r1 q2).1]
  have hcs:=pE hs
  generalize q.num.natAbs*r.den=X at*
  generalize r.num.natAbs*q.den=Y at*
  unfold cX at hcs
  refine⟨fun h1=>⟨aa,fun hc=>bQ ?_,fun hc=>bQ ?_⟩,fun h1=>⟨fun h2=>⟨aa,fun hc=>bQ ?_,fun hc=>bQ ?_⟩,fun h2=>⟨aa,fun hc=>bQ ?_,fun hc=>bQ ?_⟩⟩⟩
  all_goals rw[hcs]
  ·rw[if_pos (of_decide_eq_true hc),if_pos (by have:=of_decide_eq_true h1;omega)];rfl
  ·rw[if_neg (of_decide_eq_false hc),if_pos (by have:=of_decide_eq_true h1;omega)]
  ·rw[if_pos (of_decide_eq_true hc),if_neg (by have:=of_decide_eq_false h1;omega),if_pos (by have:=of_decide_eq_true h2;omega)]
  ·rw[if_neg (of_decide_eq_false hc),if_neg (by have:=of_decide_eq_false h1;omega),if_pos (by have:=of_decide_eq_true h2;omega)]
  ·rw[if_pos (of_decide_eq_true hc),if_neg (by have:=of_decide_eq_false h1;omega),if_neg (by have:=of_decide_eq_false h2;omega)];rfl
  ·rw[if_neg (of_decide_eq_false hc),if_neg (by have:=of_decide_eq_false h1;omega),if_neg (by have:=of_decide_eq_false h2;omega)]
 ·rw[pE hs,if_pos (of_decide_eq_true hc),CM]
 ·rw[pE hs,if_neg (of_decide_eq_false hc)]
 ·rw[pE hs,if_pos (of_decide_eq_true hc),CM]
 ·rw[pE hs,if_neg (of_decide_eq_false hc)]
theorem Uq:∀K args pre r,Sm K args pre=some r->aE P lz K args pre r:=by
 refine cK fun K args r hk hs _=>?_
 split at hs
 ·simp only[ay]at hs
  subst hs
  exact fun need=>Gt need.1 need.2 K [] trivial
 ·simp at hs
theorem agS:∀K args pre r,J9.2 K args pre=some r->aE P J9.1 K args pre r:=ab9
theorem wo:bz P GA:=aL WR (aL Uq (aL agS (aL abT (aL PU (aL LH bO)))))
section ops
variable {q r:Rat} {n m:Nat}
theorem Nx (hn:n<2^42) (hm':m<2^42) (K:Nat):aE P E5 K [.rat q n,.rat r m] [] (aK (.rat (q+r) (n+m+1)) []):=by
 refine cj hT wo hm ajl rfl aX rfl 60 WS (fun _=>?_) K []
 simp only[ah.all,az,lJ]
 exact⟨⟨aa,aa,aa,hn,hm',aa⟩,aa,.refl _⟩
theorem afG (r:Rat):sQ (!decide (r<0)) r.num.natAbs r.den=-r:=by
 have h:=lJ r
 conv=>rhs;rw[<-h]
 unfold sQ
 rw[Rat.neg_mkRat]
 congr 1
 unfold fV
 by_cases h:r<0<;>simp[h]
theorem QW (hn:n<2^42) (hm':m<2^42) (K:Nat):aE P EB K [.rat q n,.rat r m] [] (aK (.rat (q-r) (n+m+1)) []):=by
 refine cj hT wo hm akE rfl aX rfl 60 aao (fun _=>?_) K []
 simp only[ah.all,az,afG]
 exact⟨⟨aa,aa,aa,hn,hm',aa⟩,aa,dF (by rw[Rat.sub_eq_add_neg])⟩
def BF (q r:Rat):Rat:=if r<q then r else q
def EK (q r:Rat):Rat:=if q<r then r else q
theorem mI {q r:Rat}:dM q r<0↔q<r:=by unfold dM;grind
theorem tq {q r:Rat}:dM q r>0↔r<q:=by unfold dM;grind
theorem adj (hn:n<2^42) (hm':m<2^42) (K:Nat):aE P KA K [.rat q n,.rat r m] [] (aK (.rat (BF q r) (max n m)) []):=by
 refine cj hT wo hm afx rfl aX rfl 60 agX (fun _=>?_) K []
 simp only[ah.all,az,aZ,bk,mI]
 refine⟨⟨aa,aa,hm',hn⟩,fun h=>⟨⟨aa,aa⟩,⟨aa,aa,aa⟩,aa,?_⟩,fun h=>⟨⟨aa,aa,aa⟩,aa,?_⟩⟩
 ·unfold BF;rw[if_pos h];exact fK (Nat.le_max_right _ _)
 ·unfold BF;rw[if_neg h];exact fK (Nat.le_max_left _ _)
theorem aj9 (hn:n<2^42) (hm':m<2^42) (K:Nat):aE P Gz K [.rat q n,.rat r m] [] (aK (.rat (EK q r) (max n m)) []):=by
 refine cj hT wo hm ZD rfl aX rfl 60 agu (fun _=>?_) K []
 simp only[ah.all,az,aZ,bk,tq]
 refine⟨⟨aa,aa,hm',hn⟩,fun h=>⟨⟨aa,aa⟩,⟨aa,aa,aa⟩,aa,?_⟩,fun h=>⟨⟨aa,aa,aa⟩,aa,?_⟩⟩
 ·unfold EK;rw[if_pos h];exact fK (Nat.le_max_right _ _)
 ·unfold EK;rw[if_neg h];exact fK (Nat.le_max_left _ _)
theorem aic {n:Int}:sQ (decide (n<0)) n.natAbs 1=(n:Rat):=by
 unfold sQ
 have:fV (decide (n<0)) n.natAbs=n:=by unfold fV;by_cases h:n<0<;>simp[h]<;>omega
 rw[this,Rat.mkRat_one]
theorem HQ {n:Int}:Sz (n:Rat) (max 1 (bN n.natAbs)):=by
 refine⟨?_,?_⟩
 ·rw[Rat.num_intCast]
  exact Nat.lt_of_lt_of_le (jI.1 aU) (Nat.pow_le_pow_right aa (Nat.le_max_right _ _))
 ·rw[Rat.den_intCast]
  exact Nat.lt_of_lt_of_le (show 1<2^1 by omega) (Nat.pow_le_pow_right aa (Nat.le_max_left _ _))
theorem IU {n:Int} (h1:-2^63<=n) (h2:n<2^63) (K:Nat):aE P vH K [.int .i64 n] [] (aK (.rat (n:Rat) (max 1 (bN n.natAbs))) []):=by
 refine cj hT wo hm WV rfl aX rfl 60 T4 (fun _=>?_) K []
 simp only[ah.all,az,aic]
 exact⟨⟨h1,h2,jh (n:=64) aa aa,by decide,aa⟩,aa,dA rfl HQ⟩
theorem Nf (hn:n<2^42) (hm':m<2^42) (K:Nat):aE P FE K [.rat q n,.rat r m] [] (aK (.rat (q*r) (n+m)) []):=by
 refine jn fun⟨hq,hr,_⟩=>?_
 have hq:Sz q n:=hq
 have hr:Sz r m:=hr
 obtain⟨a1,a2,a3⟩:=Sz.jz hq aa
 obtain⟨b1,b2,b3⟩:=Sz.jz hr aa
 have d1:=q.den_nz
 have d2:=r.den_nz
 have m1:nl (q.num.natAbs*r.num.natAbs)<2^40:=jh (n:=n+m) (by rw[Nat.pow_add];exact Nat.mul_lt_mul'' hq.1 hr.1) aa
 have m2:nl (q.den*r.den)<2^40:=jh (n:=n+m) (by rw[Nat.pow_add];exact Nat.mul_lt_mul'' hq.2 hr.2) aa
 have hz:=hq.mul hr
 have hv:sQ (decide (q<0)!=decide (r<0)) (q.num.natAbs*r.num.natAbs) (q.den*r.den)=q*r:=by rw[<-KI,lJ,lJ]
 have hzero:q=0\/r=0->bG (.agg [.bool false,.mag 0,.mag 0]) (.rat (q*r) (n+m)):=by
  intro h
  have e:q*r=0:=by rcases h with h|h<;>subst h<;>simp
  obtain⟨k,hk⟩:∃k,n+m=k+1:=⟨n+m-1,by have:=hq.pos;omega⟩
  rw[e,hk];exact lT
 refine cj hT mB hm Uk rfl aX rfl 60 Um (fun _=>?_) K []
 have hlong:(ah.aj
         [(0:Nat)<1,(0:Nat)<1,(0:Nat)<1,(0:Nat)<1,nl q.num.natAbs<2^40,nl r.num.natAbs<2^40,(0:Nat)<1,(0:Nat)<1,nl q.den<2^40,nl r.den<2^40,nl (q.num.natAbs*r.num.natAbs)<2^40,nl (q.den*r.den)<2^40,(0:Nat)<1]
         (ah.aj [(0:Nat)<1]
          (ah.leaf au.ret
           [AV.rat (sQ (decide (q<(0:Rat))!=decide (r<(0:Rat))) (q.num.natAbs*r.num.natAbs) (q.den*r.den))
             (cS (sQ (decide (q<(0:Rat))!=decide (r<(0:Rat))) (q.num.natAbs*r.num.natAbs) (q.den*r.den)))]))).all fun _ us=>eF us (.rat (q*r) (n+m)):=by
  simp only[ah.all,az]
  exact⟨⟨aa,aa,aa,aa,a1,b1,aa,aa,a2,b2,m1,m2,aa⟩,aa,dA hv hz⟩
 refine⟨fun hb=>⟨⟨show 0<1 by omega,hb⟩,fun _=>⟨show 0<1 by omega,show 0<1 by omega,hzero (.inl ?_)⟩,fun h=>by simp at h⟩,fun hb=>⟨⟨show 0<1 by omega,hb,show 0<1 by omega⟩,fun hc=>⟨show 0<1 by omega,show 0<1 by omega,hzero (.inr ?_)⟩,fun hc=>⟨show 0<1 by omega,fun h1=>⟨show 0<1 by omega,fun h2=>?_,fun h2=>hlong⟩,fun h1=>hlong⟩⟩⟩
 ·have:=eq_of_beq hb
  exact nu.1 (jG.1 aa)
 ·have:=eq_of_beq (iF hc)
  exact nu.1 (jG.1 aa)
 ·obtain⟨q1,q2⟩:=qG h1
  obtain⟨r1,r2⟩:=qG h2
  obtain⟨wx,bx⟩:=pH q1 r1
  obtain⟨wd,bd⟩:=pH q2 r2
  have hd0:q.den*r.den≠0:=Nat.mul_ne_zero d1 d2
  rw[if_pos h1,if_pos h2,if_pos h1,if_pos h2,wx,wd]
  simp only[ah.all,az,aW]
  exact⟨⟨aa,aa,aa,aa,aa⟩,aa,dA hv hz⟩
theorem H9 (q r:Rat) (hr:r≠0):sQ (decide (q<0)!=decide (r<0)) (q.num.natAbs*r.den) (q.den*r.num.natAbs)=q/r:=by
 have hn:r.num≠0:=fun h=>hr (Rat.num_eq_zero.1 h)
 have hi:r⁻¹=sQ (decide (r<0)) r.den r.num.natAbs:=by
  rw[<-lJ r⁻¹]
  have e1:r⁻¹.num.natAbs=r.den:=by rw[Rat.num_inv,Int.natAbs_mul,Int.natAbs_natCast,Int.natAbs_sign_of_ne_zero hn,Nat.one_mul]
  have e2:r⁻¹.den=r.num.natAbs:=by rw[Rat.den_inv,if_neg hn]
  have e3:decide (r⁻¹<0)=decide (r<0):=by
   rw[decide_eq_decide,iS,iS,Rat.num_inv]
   have hd:=r.den_nz
   have hd':(0:Int)<(r.den:Int):=aa
   rcases Int.lt_trichotomy r.num 0 with h|h|h
   ·rw[Int.sign_eq_neg_one_of_neg h];omega
   ·exact absurd h hn
   ·rw[Int.sign_eq_one_of_pos h];omega
  rw[e1,e2,e3]
 rw[Rat.div_def,hi]
 conv=>rhs;rw[<-lJ q]
 rw[KI]
theorem Ib (hn:n<2^42) (hm':m<2^42) (K:Nat):aE P Au K [.rat q n,.rat r m] [] (aK (.tuple [.rat (q/r) (n+m),.int .i64 (if r=0 then 3 else 0)]) []):=by
 refine jn fun⟨hq,hr,_⟩=>?_
 have hq:Sz q n:=hq
 have hr:Sz r m:=hr
 obtain⟨a1,a2,a3⟩:=Sz.jz hq aa
 obtain⟨b1,b2,b3⟩:=Sz.jz hr aa
 have d1:=q.den_nz
 have d2:=r.den_nz
 have m1:nl (q.num.natAbs*r.den)<2^40:=jh (n:=n+m) (by rw[Nat.pow_add];exact Nat.mul_lt_mul'' hq.1 hr.2) aa
 have m2:nl (q.den*r.num.natAbs)<2^40:=jh (n:=n+m) (by rw[Nat.pow_add];exact Nat.mul_lt_mul'' hq.2 hr.1) aa
 have hz:=hq.div hr
 have sg:∀{x:Rat},eW x=0↔x=0:=by intro x;unfold eW;grind
 refine cj hT mB hm alf rfl aX rfl 60 aeK (fun _=>?_) K []
 refine⟨⟨show 0<1 by omega,show m<2^44 by omega⟩,fun hb=>⟨show 0<1 by omega,show 0<1 by omega,?_,?_,trivial⟩,fun hb=>⟨show 0<1 by omega,?_⟩⟩
 ·have h0:r=0:=sg.1 (eq_of_beq hb)
  have e:q/r=0:=by rw[h0,Rat.div_def,Rat.inv_zero,Rat.mul_zero]
  obtain⟨k,hk⟩:∃k,n+m=k+1:=⟨n+m-1,by have:=hq.pos;omega⟩
  rw[e,hk];exact lT
 ·have h0:r=0:=sg.1 (eq_of_beq hb)
  exact bQ (by rw[if_pos h0])
 have h0:r≠0:=fun h=>by
  rw[h]at hb
  simp[eW]at hb
 have hv:=H9 q r h0
 have he:bG (.int .i64 0) (.int .i64 (if r=0 then 3 else 0)):=bQ (by rw[if_neg h0])
 have hlong:(ah.aj
         [(0:Nat)<1,(0:Nat)<1,(0:Nat)<1,(0:Nat)<1,nl q.num.natAbs<2^40,nl r.den<2^40,(0:Nat)<1,(0:Nat)<1,nl q.den<2^40,nl r.num.natAbs<2^40,nl (q.num.natAbs*r.den)<2^40,nl (q.den*r.num.natAbs)<2^40,(0:Nat)<1]
         (ah.aj [(0:Nat)<1]
          (ah.leaf au.ret
           [AV.rat (sQ (decide (q<(0:Rat))!=decide (r<(0:Rat))) (q.num.natAbs*r.den) (q.den*r.num.natAbs))
             (cS (sQ (decide (q<(0:Rat))!=decide (r<(0:Rat))) (q.num.natAbs*r.den) (q.den*r.num.natAbs))),.int .i64 0]))).all fun _ us=>eF us (.tuple [.rat (q/r) (n+m),.int .i64 (if r=0 then 3 else 0)]):=by
  simp only[ah.all,az]
  exact⟨⟨aa,aa,aa,aa,a1,b2,aa,aa,a2,b1,m1,m2,aa⟩,aa,dA hv hz,he,trivial⟩
 refine⟨fun h1=>⟨show 0<1 by omega,fun h2=>?_,fun h2=>hlong⟩,fun h1=>hlong⟩
 obtain⟨q1,q2⟩:=qG h1
 obtain⟨r1,r2⟩:=qG h2
 obtain⟨wx,bx⟩:=pH q1 r2
 obtain⟨wd,bd⟩:=pH q2 r1
 have hr0:r.num.natAbs≠0:=fun h=>h0 (nu.1 h)
 have hd0:q.den*r.num.natAbs≠0:=Nat.mul_ne_zero d1 hr0
 rw[if_pos h1,if_pos h2,if_pos h1,if_pos h2,wx,wd]
 simp only[ah.all,az,aW]
 exact⟨⟨aa,aa,aa,aa,aa⟩,aa,dA hv hz,he,trivial⟩
end ops
def Sr:Spec:=bX fun l=>match l with
 |[.int .i64 n]=>some (aK (.rat (n:Rat) (max 1 (bN n.natAbs))) [-2^63<=n,n<2^63])
 |_=>none
theorem UL:∀K args pre r,Sr K args pre=some r->aE P vH K args pre r:=by
 refine cK fun K args r hk hs _=>?_
 split at hs
 ·simp only[ay]at hs
  subst hs
  exact fun need=>IU need.1 need.2 K trivial
 ·simp at hs
end Go.Am.B
