/- rational.Add, Sub, Mul, Quo, Cmp, Min, Max, Int. -/
import Derived.Test.YtnniljlepppdpaaGreatB20
set_option linter.unusedVariables false
namespace Go.Am.B
open Go Go.Am.N AV
theorem agG:aU P Ay CO (az CO):=aT Proofs.Tryz.func123 ah ah ah
theorem abW:aU P zJ zE (az zE):=aT Proofs.Tryz.func122 ah ah ah
theorem acR:aU P IM De (az De):=aT Proofs.Tryz.func180 ah ah ah
theorem aib:aU P HN Ep (az Ep):=aT Proofs.Tryz.func181 ah ah ah
theorem aiq:aU P uk BP (az BP):=aT Proofs.Tryz.func203 ah ah ah
def MA:Spec:=bM fun l=>match l with
 |[.rat q n,.rat r m,.bool s]=>some (aL (.rat (q+sQ s r.num.natAbs r.den) (n+m+1)) [n<2^42,m<2^42])
 |_=>none
def L6:Spec:=bM fun l=>match l with
 |[.rat q n,.rat r m]=>some (aL (.int .i64 (ek q r)) [n<2^42,m<2^42])
 |_=>none
abbrev FU:FuncId×Spec:=(Ed,Oq)
def GA:aV:=(Ch,MA)::(kS,L6)::FU::(Co,PG)::(xA,FO)::(zk,Gv)::[]
theorem Tn {q r:Rat} {n m:Nat}:bP T GA [] 60 CO (az CO) ⟨aQ 0 [.rat q n,.rat r m],[],0⟩=
  let c1:Prop:=0<1;some (ag.aj [c1,c1,c1,n<2^42,m<2^42,c1] (ag.aj [c1] (ag.leaf ak.ret [rat (q+sQ (decide (r<0)) r.num.natAbs r.den) (n+m+1)]))):=ah
theorem R9 {q r:Rat} {n m:Nat}:bP T GA [] 60 zE (az zE) ⟨aQ 0 [.rat q n,.rat r m],[],0⟩=
  let c1:Prop:=0<1;some (ag.aj [c1,c1,c1,n<2^42,m<2^42,c1] (ag.aj [c1] (ag.leaf ak.ret [rat (q+sQ (!decide (r<0)) r.num.natAbs r.den) (n+m+1)]))):=ah
theorem aeZ {q r:Rat} {n m:Nat}:bP T GA [8] 60 De (az De) ⟨aQ 0 [.rat q n,.rat r m],[],0⟩=
  let c1:Prop:=0<1;some (ag.aj [c1,c1,m<2^42,n<2^42] (ag.fork (decide (ek r q<(0:Int))) (ag.aj [c1,c1] (ag.aj [c1,m<2^44,c1] (ag.aj [c1] (ag.leaf ak.ret [rat r m])))) (ag.aj [c1,n<2^44,c1] (ag.aj [c1] (ag.leaf ak.ret [rat q n]))))):=ah
theorem ajd {q r:Rat} {n m:Nat}:bP T GA [8] 60 Ep (az Ep) ⟨aQ 0 [.rat q n,.rat r m],[],0⟩=
  let c1:Prop:=0<1;some (ag.aj [c1,c1,m<2^42,n<2^42] (ag.fork (decide (ek r q>(0:Int))) (ag.aj [c1,c1] (ag.aj [c1,m<2^44,c1] (ag.aj [c1] (ag.leaf ak.ret [rat r m])))) (ag.aj [c1,n<2^44,c1] (ag.aj [c1] (ag.leaf ak.ret [rat q n]))))):=ah
theorem ahH {n:Int}:bP T GA [] 60 BP (az BP) ⟨aQ 0 [.int .i64 n],[],0⟩=
  let c1:Rat:=sQ (decide (n<(0:Int))) n.natAbs 1;some (ag.aj [-(2:Int)^63<=n,n<(2:Int)^63,nl n.natAbs<2^40,nl 1<2^40,(0:Nat)<1] (ag.aj [(0:Nat)<1] (ag.leaf ak.ret [rat c1 (cK c1)]))):=ah
theorem acd {q r:Rat} {n m:Nat}:bP T GQ [20,23,34,47,49,56,63,76] 60 CY (az CY) ⟨aQ 0 [.rat q n,.rat r m],[],0⟩=
  let c14 : ag (List AV) := ag.leaf ak.ret [int IntKind.i64 (0 : Int)]; let c13 : Nat := q.num.natAbs; let c12 : Nat := r.num.natAbs; let c11 : ag (List AV) := ag.leaf ak.ret [int IntKind.i64 (1 : Int)]; let c10 : Bool := decide (q < 0); let c9 : ag (List AV) := ag.leaf ak.ret [int IntKind.i64 (-1 : Int)]; let c8 : Nat := if r.den = 1 then 0 else r.den; let c7 : Nat := if q.den = 1 then 0 else q.den; let c6 : Nat := 2 ^ 40; let c5 : Prop := 0 < 1; let c15 : Int := cO (c13 * r.den) (c12 * q.den); let c4 : Int := IntKind.u64.wrap ((↑(if dP q = true then c13 else 0) : Int) * (↑(if dP r = true then r.den else 0) : Int)); let c3 : Int := IntKind.u64.wrap ((↑(if dP r = true then c12 else 0) : Int) * (↑(if dP q = true then q.den else 0) : Int)); let c2 : ag (List AV) := ag.aj [c5, c5, nl c13 < c6, nl r.den < c6, c5, c5, nl c12 < c6, nl q.den < c6, nl (c13 * r.den) < c6, nl (c12 * q.den) < c6] (ag.aj [c5] (ag.fork c10 (ag.leaf ak.ret [int IntKind.i64 (IntKind.i64.wrap ((0 : Int) - c15))]) (ag.leaf ak.ret [int IntKind.i64 c15]))); let c1 : ag (List AV) := ag.fork (decide (c4 < c3)) (ag.aj [c5] (ag.fork c10 c11 c9)) (ag.fork (decide (c4 > c3)) (ag.aj [c5] (ag.fork c10 c9 c11)) (ag.aj [c5] (ag.fork c10 c14 c14))); some (ag.aj [c5, n < 2 ^ 44, c5, m < 2 ^ 44] (ag.fork (eP q != eP r) (ag.fork (decide (eP q < eP r)) c9 c11) (ag.aj [c5] (ag.aj [c5, c5, nl c7 < c6, nl c8 < c6] (ag.fork (decide (c7 = c8)) (ag.aj [c5, c5, nl c13 < c6, nl c12 < c6] (ag.aj [c5] (ag.fork c10 (ag.leaf ak.ret [int IntKind.i64 (IntKind.i64.wrap ((0 : Int) - cO c13 c12))]) (ag.leaf ak.ret [int IntKind.i64 (cO c13 c12)])))) (ag.aj [c5] (ag.fork (dP q) (ag.aj [dP q = true] (ag.fork (bif true then dP r else false) c1 c2)) (ag.aj [dP q = false] (ag.fork false c1 c2))))))))) := ah
theorem aem:∀K args pre r,MA K args pre=some r->aD P Ch K args pre r:=by
 refine ct fun K args r hk hs _=>?_
 split at hs
 ·simp only[au]at hs
  subst hs
  exact fun need=>Ut need.1 need.2 K [] trivial
 ·simp at hs
theorem zZ {q r:Rat} (h:eP q≠eP r):ek q r=if eP q<eP r then-1 else 1:=by
 unfold eP ek at*
 grind
theorem Ym {a b:Nat}:-cO a b=cO b a:=by unfold cO;split<;>split<;>omega
theorem KC {a b k:Nat} (hk:0<k):cO (a*k) (b*k)=cO a b:=by
 unfold cO
 simp only[Nat.mul_lt_mul_right hk]
theorem zq {a b:Nat}:IntKind.i64.wrap (0-cO a b)=-cO a b:=by
 have:cO a b=-1\/cO a b=0\/cO a b=1:=by unfold cO;split;exact .inl rfl;split;exact .inr (.inr rfl);exact .inr (.inl rfl)
 rcases this with h|h|h<;>rw[h]<;>rfl
theorem oz {q r:Rat} (h:eP q=eP r):ek q r=if q<0 then-cO (q.num.natAbs*r.den) (r.num.natAbs*q.den)else cO (q.num.natAbs*r.den) (r.num.natAbs*q.den):=by
 have h1:q<0↔r<0:=by unfold eP at h;grind
 have e1:∀{a b:Nat},(-(a:Int))*(b:Int)=-((a*b:Nat):Int):=fun {a b}=>by simp[Int.neg_mul]
 have e2:∀{a b:Nat},(a:Int)*(b:Int)=((a*b:Nat):Int):=fun {a b}=>by simp
 unfold ek
 by_cases hq:q<0
 ·have hr:=h1.1 hq
  have q1:q.num=-(q.num.natAbs:Int):=by have:=iN.1 hq;omega
  have r1:r.num=-(r.num.natAbs:Int):=by have:=iN.1 hr;omega
  have l1:q<r↔r.num.natAbs*q.den<q.num.natAbs*r.den:=by
   rw[Rat.lt_iff]
   conv=>lhs;rw[q1,r1,e1,e1]
   omega
  have l2:r<q↔q.num.natAbs*r.den<r.num.natAbs*q.den:=by
   rw[Rat.lt_iff]
   conv=>lhs;rw[q1,r1,e1,e1]
   omega
  rw[if_pos hq,Ym]
  unfold cO
  simp only[l1,l2]
 ·have hr:¬r<0:=fun h=>hq (h1.2 h)
  have q1:q.num=(q.num.natAbs:Int):=by have:¬q.num<0:=fun h=>hq (iN.2 h);omega
  have r1:r.num=(r.num.natAbs:Int):=by have:¬r.num<0:=fun h=>hr (iN.2 h);omega
  have l1:q<r↔q.num.natAbs*r.den<r.num.natAbs*q.den:=by
   rw[Rat.lt_iff]
   conv=>lhs;rw[q1,r1,e2,e2]
   omega
  have l2:r<q↔r.num.natAbs*q.den<q.num.natAbs*r.den:=by
   rw[Rat.lt_iff]
   conv=>lhs;rw[q1,r1,e2,e2]
   omega
  rw[if_neg hq]
  unfold cO
  simp only[l1,l2]
theorem EY {q r:Rat} {n m:Nat} (hn:n<2^42) (hm':m<2^42) (K:Nat) (pre:aE):aD P kS K [.rat q n,.rat r m] pre (aL (.int .i64 (ek q r)) []):=by
 refine jw fun⟨hq,hr,_⟩=>?_
 have hq:Sz q n:=hq
 have hr:Sz r m:=hr
 obtain⟨a1,a2,a3⟩:=Sz.jk hq aa
 obtain⟨b1,b2,b3⟩:=Sz.jk hr aa
 have d1:=q.den_nz
 have d2:=r.den_nz
 have m1:nl (q.num.natAbs*r.den)<2^40:=j9 (n:=n+m) (by rw[Nat.pow_add];exact Nat.mul_lt_mul'' hq.1 hr.2) aa
 have m2:nl (r.num.natAbs*q.den)<2^40:=j9 (n:=m+n) (by rw[Nat.pow_add];exact Nat.mul_lt_mul'' hr.1 hq.2) aa
 refine bW hT lU hm Xe rfl aW rfl 60 acd (fun _=>?_) K pre
 simp only[ag.all,aA,bne_iff_ne,ne_eq,bne_eq_false_iff_eq]
 refine⟨⟨aa,aa,aa,aa⟩,fun hs=>⟨fun hl=>bJ ?_,fun hl=>bJ ?_⟩,fun hs=>⟨aa,⟨aa,aa,a3,b3⟩,fun hd=>⟨⟨aa,aa,a1,b1⟩,aa,fun hc=>bJ ?_,fun hc=>bJ ?_⟩,fun hd=>⟨aa,fun hp=>⟨hp,fun hp2=>?_,fun hp2=>⟨⟨aa,aa,a1,b2,aa,aa,b1,a2,m1,m2⟩,aa,fun hc=>bJ ?_,fun hc=>bJ ?_⟩⟩,fun hp=>⟨hp,fun h=>by simp at h,fun _=>⟨⟨aa,aa,a1,b2,aa,aa,b1,a2,m1,m2⟩,aa,fun hc=>bJ ?_,fun hc=>bJ ?_⟩⟩⟩⟩⟩
 ·rw[zZ hs,if_pos (of_decide_eq_true hl)]
 ·rw[zZ hs,if_neg (of_decide_eq_false hl)]
 ·have hd:=of_decide_eq_true hd
  have e:q.den=r.den:=by split at hd<;>split at hd<;>omega
  rw[oz hs,if_pos (of_decide_eq_true hc),e,KC aa,zq]
 ·have hd:=of_decide_eq_true hd
  have e:q.den=r.den:=by split at hd<;>split at hd<;>omega
  rw[oz hs,if_neg (of_decide_eq_false hc),e,KC aa]
 ·have hp2:=jq hp2
  obtain⟨q1,q2⟩:=p5 hp
  obtain⟨r1,r2⟩:=p5 hp2
  rw[if_pos hp,if_pos hp2,if_pos hp2,if_pos hp,(nY q1 r2).1,(nY r1 q2).1]
  have hcs:=oz hs
  generalize q.num.natAbs*r.den=X at*
  generalize r.num.natAbs*q.den=Y at*
  unfold cO at hcs
  refine⟨fun h1=>⟨aa,fun hc=>bJ ?_,fun hc=>bJ ?_⟩,fun h1=>⟨fun h2=>⟨aa,fun hc=>bJ ?_,fun hc=>bJ ?_⟩,fun h2=>⟨aa,fun hc=>bJ ?_,fun hc=>bJ ?_⟩⟩⟩
  all_goals rw[hcs]
  ·rw[if_pos (of_decide_eq_true hc),if_pos (by have:=of_decide_eq_true h1;omega)];rfl
  ·rw[if_neg (of_decide_eq_false hc),if_pos (by have:=of_decide_eq_true h1;omega)]
  ·rw[if_pos (of_decide_eq_true hc),if_neg (by have:=of_decide_eq_false h1;omega),if_pos (by have:=of_decide_eq_true h2;omega)]
  ·rw[if_neg (of_decide_eq_false hc),if_neg (by have:=of_decide_eq_false h1;omega),if_pos (by have:=of_decide_eq_true h2;omega)]
  ·rw[if_pos (of_decide_eq_true hc),if_neg (by have:=of_decide_eq_false h1;omega),if_neg (by have:=of_decide_eq_false h2;omega)];rfl
  ·rw[if_neg (of_decide_eq_false hc),if_neg (by have:=of_decide_eq_false h1;omega),if_neg (by have:=of_decide_eq_false h2;omega)]
 ·rw[oz hs,if_pos (of_decide_eq_true hc),zq]
 ·rw[oz hs,if_neg (of_decide_eq_false hc)]
 ·rw[oz hs,if_pos (of_decide_eq_true hc),zq]
 ·rw[oz hs,if_neg (of_decide_eq_false hc)]
theorem ai2:∀K args pre r,L6 K args pre=some r->aD P kS K args pre r:=by
 refine ct fun K args r hk hs _=>?_
 split at hs
 ·simp only[au]at hs
  subst hs
  exact fun need=>EY need.1 need.2 K [] trivial
 ·simp at hs
theorem ai9:∀K args pre r,FU.2 K args pre=some r->aD P FU.1 K args pre r:=acH
theorem yH:bn P GA:=aI aem (aI ai2 (aI ai9 (aI aeS (aI Mo (aI J2 bE)))))
section ops
variable {q r:Rat} {n m:Nat}
theorem OF (hn:n<2^42) (hm':m<2^42) (K:Nat):aD P Ay K [.rat q n,.rat r m] [] (aL (.rat (q+r) (n+m+1)) []):=by
 refine bW hT yH hm agG rfl aW rfl 60 Tn (fun _=>?_) K []
 simp only[ag.all,aA,kJ]
 exact⟨⟨aa,aa,aa,hn,hm',aa⟩,aa,.refl _⟩
theorem aeX (r:Rat):sQ (!decide (r<0)) r.num.natAbs r.den=-r:=by
 have h:=kJ r
 conv=>rhs;rw[<-h]
 unfold sQ
 rw[Rat.neg_mkRat]
 congr 1
 unfold fM
 by_cases h:r<0<;>simp[h]
theorem Rx (hn:n<2^42) (hm':m<2^42) (K:Nat):aD P zJ K [.rat q n,.rat r m] [] (aL (.rat (q-r) (n+m+1)) []):=by
 refine bW hT yH hm abW rfl aW rfl 60 R9 (fun _=>?_) K []
 simp only[ag.all,aA,aeX]
 exact⟨⟨aa,aa,aa,hn,hm',aa⟩,aa,dD (by rw[Rat.sub_eq_add_neg])⟩
def lH (q r:Rat):Rat:=if r<q then r else q
def lP (q r:Rat):Rat:=if q<r then r else q
theorem qc {q r:Rat}:ek q r<0↔q<r:=by unfold ek;grind
theorem sS {q r:Rat}:ek q r>0↔r<q:=by unfold ek;grind
theorem VD (hn:n<2^42) (hm':m<2^42) (K:Nat):aD P IM K [.rat q n,.rat r m] [] (aL (.rat (lH q r) (max n m)) []):=by
 refine bW hT yH hm acR rfl aW rfl 60 aeZ (fun _=>?_) K []
 simp only[ag.all,aA,bf,bt,qc]
 refine⟨⟨aa,aa,hm',hn⟩,fun h=>⟨⟨aa,aa⟩,⟨aa,aa,aa⟩,aa,?_⟩,fun h=>⟨⟨aa,aa,aa⟩,aa,?_⟩⟩
 ·unfold lH;rw[if_pos h];exact fJ (Nat.le_max_right _ _)
 ·unfold lH;rw[if_neg h];exact fJ (Nat.le_max_left _ _)
theorem af5 (hn:n<2^42) (hm':m<2^42) (K:Nat):aD P HN K [.rat q n,.rat r m] [] (aL (.rat (lP q r) (max n m)) []):=by
 refine bW hT yH hm aib rfl aW rfl 60 ajd (fun _=>?_) K []
 simp only[ag.all,aA,bf,bt,sS]
 refine⟨⟨aa,aa,hm',hn⟩,fun h=>⟨⟨aa,aa⟩,⟨aa,aa,aa⟩,aa,?_⟩,fun h=>⟨⟨aa,aa,aa⟩,aa,?_⟩⟩
 ·unfold lP;rw[if_pos h];exact fJ (Nat.le_max_right _ _)
 ·unfold lP;rw[if_neg h];exact fJ (Nat.le_max_left _ _)
theorem Xr {n:Int}:sQ (decide (n<0)) n.natAbs 1=(n:Rat):=by
 unfold sQ
 have:fM (decide (n<0)) n.natAbs=n:=by unfold fM;by_cases h:n<0<;>simp[h]<;>omega
 rw[this,Rat.mkRat_one]
theorem FT {n:Int}:Sz (n:Rat) (max 1 (bG n.natAbs)):=by
 refine⟨?_,?_⟩
 ·rw[Rat.num_intCast]
  exact Nat.lt_of_lt_of_le (je.1 bp) (Nat.pow_le_pow_right aa (Nat.le_max_right _ _))
 ·rw[Rat.den_intCast]
  exact Nat.lt_of_lt_of_le (show 1<2^1 by omega) (Nat.pow_le_pow_right aa (Nat.le_max_left _ _))
theorem GL {n:Int} (h1:-2^63<=n) (h2:n<2^63) (K:Nat):aD P uk K [.int .i64 n] [] (aL (.rat (n:Rat) (max 1 (bG n.natAbs))) []):=by
 refine bW hT yH hm aiq rfl aW rfl 60 ahH (fun _=>?_) K []
 simp only[ag.all,aA,Xr]
 exact⟨⟨h1,h2,j9 (n:=64) aa aa,by decide,aa⟩,aa,cV rfl FT⟩
theorem OY (hn:n<2^42) (hm':m<2^42) (K:Nat):aD P CM K [.rat q n,.rat r m] [] (aL (.rat (q*r) (n+m)) []):=by
 refine jw fun⟨hq,hr,_⟩=>?_
 have hq:Sz q n:=hq
 have hr:Sz r m:=hr
 obtain⟨a1,a2,a3⟩:=Sz.jk hq aa
 obtain⟨b1,b2,b3⟩:=Sz.jk hr aa
 have d1:=q.den_nz
 have d2:=r.den_nz
 have m1:nl (q.num.natAbs*r.num.natAbs)<2^40:=j9 (n:=n+m) (by rw[Nat.pow_add];exact Nat.mul_lt_mul'' hq.1 hr.1) aa
 have m2:nl (q.den*r.den)<2^40:=j9 (n:=n+m) (by rw[Nat.pow_add];exact Nat.mul_lt_mul'' hq.2 hr.2) aa
 have hz:=hq.mul hr
 have hv:sQ (decide (q<0)!=decide (r<0)) (q.num.natAbs*r.num.natAbs) (q.den*r.den)=q*r:=by rw[<-Ja,kJ,kJ]
 have hzero:q=0\/r=0->bD (.agg [.bool false,.mag 0,.mag 0]) (.rat (q*r) (n+m)):=by
  intro h
  have e:q*r=0:=by rcases h with h|h<;>subst h<;>simp
  obtain⟨k,hk⟩:∃k,n+m=k+1:=⟨n+m-1,by have:=hq.pos;omega⟩
  rw[e,hk];exact nh
 refine bW hT lU hm Zr rfl aW rfl 60 TR (fun _=>?_) K []
 have hlong:(ag.aj
         [(0:Nat)<1,(0:Nat)<1,(0:Nat)<1,(0:Nat)<1,nl q.num.natAbs<2^40,nl r.num.natAbs<2^40,(0:Nat)<1,(0:Nat)<1,nl q.den<2^40,nl r.den<2^40,nl (q.num.natAbs*r.num.natAbs)<2^40,nl (q.den*r.den)<2^40,(0:Nat)<1]
         (ag.aj [(0:Nat)<1]
          (ag.leaf ak.ret
           [AV.rat (sQ (decide (q<(0:Rat))!=decide (r<(0:Rat))) (q.num.natAbs*r.num.natAbs) (q.den*r.den))
             (cK (sQ (decide (q<(0:Rat))!=decide (r<(0:Rat))) (q.num.natAbs*r.num.natAbs) (q.den*r.den)))]))).all fun _ us=>er us (.rat (q*r) (n+m)):=by
  simp only[ag.all,aA]
  exact⟨⟨aa,aa,aa,aa,a1,b1,aa,aa,a2,b2,m1,m2,aa⟩,aa,cV hv hz⟩
 refine⟨fun hb=>⟨⟨show 0<1 by omega,hb⟩,fun _=>⟨show 0<1 by omega,show 0<1 by omega,hzero (.inl ?_)⟩,fun h=>by simp at h⟩,fun hb=>⟨⟨show 0<1 by omega,hb,show 0<1 by omega⟩,fun hc=>⟨show 0<1 by omega,show 0<1 by omega,hzero (.inr ?_)⟩,fun hc=>⟨show 0<1 by omega,fun h1=>⟨show 0<1 by omega,fun h2=>?_,fun h2=>hlong⟩,fun h1=>hlong⟩⟩⟩
 ·have:=eq_of_beq hb
  exact oL.1 (ja.1 aa)
 ·have:=eq_of_beq (gZ hc)
  exact oL.1 (ja.1 aa)
 ·obtain⟨q1,q2⟩:=p5 h1
  obtain⟨r1,r2⟩:=p5 h2
  obtain⟨wx,bx⟩:=nY q1 r1
  obtain⟨wd,bd⟩:=nY q2 r2
  have hd0:q.den*r.den≠0:=Nat.mul_ne_zero d1 d2
  rw[if_pos h1,if_pos h2,if_pos h1,if_pos h2,wx,wd]
  simp only[ag.all,aA,aX]
  exact⟨⟨aa,aa,aa,aa,aa⟩,aa,cV hv hz⟩
theorem JP (q r:Rat) (hr:r≠0):sQ (decide (q<0)!=decide (r<0)) (q.num.natAbs*r.den) (q.den*r.num.natAbs)=q/r:=by
 have hn:r.num≠0:=fun h=>hr (Rat.num_eq_zero.1 h)
 have hi:r⁻¹=sQ (decide (r<0)) r.den r.num.natAbs:=by
  rw[<-kJ r⁻¹]
  have e1:r⁻¹.num.natAbs=r.den:=by rw[Rat.num_inv,Int.natAbs_mul,Int.natAbs_natCast,Int.natAbs_sign_of_ne_zero hn,Nat.one_mul]
  have e2:r⁻¹.den=r.num.natAbs:=by rw[Rat.den_inv,if_neg hn]
  have e3:decide (r⁻¹<0)=decide (r<0):=by
   rw[decide_eq_decide,iN,iN,Rat.num_inv]
   have hd:=r.den_nz
   have hd':(0:Int)<(r.den:Int):=aa
   rcases Int.lt_trichotomy r.num 0 with h|h|h
   ·rw[Int.sign_eq_neg_one_of_neg h];omega
   ·exact absurd h hn
   ·rw[Int.sign_eq_one_of_pos h];omega
  rw[e1,e2,e3]
 rw[Rat.div_def,hi]
 conv=>rhs;rw[<-kJ q]
 rw[Ja]
theorem Cx (hn:n<2^42) (hm':m<2^42) (K:Nat):aD P uZ K [.rat q n,.rat r m] [] (aL (.tuple [.rat (q/r) (n+m),.int .i64 (if r=0 then 3 else 0)]) []):=by
 refine jw fun⟨hq,hr,_⟩=>?_
 have hq:Sz q n:=hq
 have hr:Sz r m:=hr
 obtain⟨a1,a2,a3⟩:=Sz.jk hq aa
 obtain⟨b1,b2,b3⟩:=Sz.jk hr aa
 have d1:=q.den_nz
 have d2:=r.den_nz
 have m1:nl (q.num.natAbs*r.den)<2^40:=j9 (n:=n+m) (by rw[Nat.pow_add];exact Nat.mul_lt_mul'' hq.1 hr.2) aa
 have m2:nl (q.den*r.num.natAbs)<2^40:=j9 (n:=n+m) (by rw[Nat.pow_add];exact Nat.mul_lt_mul'' hq.2 hr.1) aa
 have hz:=hq.div hr
 have sg:∀{x:Rat},eP x=0↔x=0:=by intro x;unfold eP;grind
 refine bW hT lU hm acv rfl aW rfl 60 acP (fun _=>?_) K []
 refine⟨⟨show 0<1 by omega,show m<2^44 by omega⟩,fun hb=>⟨show 0<1 by omega,show 0<1 by omega,?_,?_,trivial⟩,fun hb=>⟨show 0<1 by omega,?_⟩⟩
 ·have h0:r=0:=sg.1 (eq_of_beq hb)
  have e:q/r=0:=by rw[h0,Rat.div_def,Rat.inv_zero,Rat.mul_zero]
  obtain⟨k,hk⟩:∃k,n+m=k+1:=⟨n+m-1,by have:=hq.pos;omega⟩
  rw[e,hk];exact nh
 ·have h0:r=0:=sg.1 (eq_of_beq hb)
  exact bJ (by rw[if_pos h0])
 have h0:r≠0:=fun h=>by
  rw[h]at hb
  simp[eP]at hb
 have hv:=JP q r h0
 have he:bD (.int .i64 0) (.int .i64 (if r=0 then 3 else 0)):=bJ (by rw[if_neg h0])
 have hlong:(ag.aj
         [(0:Nat)<1,(0:Nat)<1,(0:Nat)<1,(0:Nat)<1,nl q.num.natAbs<2^40,nl r.den<2^40,(0:Nat)<1,(0:Nat)<1,nl q.den<2^40,nl r.num.natAbs<2^40,nl (q.num.natAbs*r.den)<2^40,nl (q.den*r.num.natAbs)<2^40,(0:Nat)<1]
         (ag.aj [(0:Nat)<1]
          (ag.leaf ak.ret
           [AV.rat (sQ (decide (q<(0:Rat))!=decide (r<(0:Rat))) (q.num.natAbs*r.den) (q.den*r.num.natAbs))
             (cK (sQ (decide (q<(0:Rat))!=decide (r<(0:Rat))) (q.num.natAbs*r.den) (q.den*r.num.natAbs))),.int .i64 0]))).all fun _ us=>er us (.tuple [.rat (q/r) (n+m),.int .i64 (if r=0 then 3 else 0)]):=by
  simp only[ag.all,aA]
  exact⟨⟨aa,aa,aa,aa,a1,b2,aa,aa,a2,b1,m1,m2,aa⟩,aa,cV hv hz,he,trivial⟩
 refine⟨fun h1=>⟨show 0<1 by omega,fun h2=>?_,fun h2=>hlong⟩,fun h1=>hlong⟩
 obtain⟨q1,q2⟩:=p5 h1
 obtain⟨r1,r2⟩:=p5 h2
 obtain⟨wx,bx⟩:=nY q1 r2
 obtain⟨wd,bd⟩:=nY q2 r1
 have hr0:r.num.natAbs≠0:=fun h=>h0 (oL.1 h)
 have hd0:q.den*r.num.natAbs≠0:=Nat.mul_ne_zero d1 hr0
 rw[if_pos h1,if_pos h2,if_pos h1,if_pos h2,wx,wd]
 simp only[ag.all,aA,aX]
 exact⟨⟨aa,aa,aa,aa,aa⟩,aa,cV hv hz,he,trivial⟩
end ops
def Oj:Spec:=bM fun l=>match l with
 |[.int .i64 n]=>some (aL (.rat (n:Rat) (max 1 (bG n.natAbs))) [-2^63<=n,n<2^63])
 |_=>none
theorem Xu:∀K args pre r,Oj K args pre=some r->aD P uk K args pre r:=by
 refine ct fun K args r hk hs _=>?_
 split at hs
 ·simp only[au]at hs
  subst hs
  exact fun need=>GL need.1 need.2 K trivial
 ·simp at hs
end Go.Am.B
