/- rational.Add, Sub, Mul, Quo, Cmp, Min, Max, Int. -/
import Derived.Test.YtnniljlepppdpaaGreatB20
set_option linter.unusedVariables false
namespace Go.Am.B
open Go Go.Am.N AV
theorem agc:aR P Ce D5 (az D5):=aS Proofs.Tryz.func123 ag ag ag
theorem agb:aR P B5 Cp (az Cp):=aS Proofs.Tryz.func122 ag ag ag
theorem abB:aR P Iu DO (az DO):=aS Proofs.Tryz.func180 ag ag ag
theorem Yh:aR P KC DJ (az DJ):=aS Proofs.Tryz.func181 ag ag ag
theorem Xm:aR P uT Dv (az Dv):=aS Proofs.Tryz.func203 ag ag ag
def QY:Spec:=bU fun l=>match l with
 |[.rat q n,.rat r m,.bool s]=>some (aK (.rat (q+sQ s r.num.natAbs r.den) (n+m+1)) [n<2^42,m<2^42])
 |_=>none
def Pe:Spec:=bU fun l=>match l with
 |[.rat q n,.rat r m]=>some (aK (.int .i64 (e9 q r)) [n<2^42,m<2^42])
 |_=>none
abbrev KB:FuncId×Spec:=(C5,PW)
def GA:aX:=(Ez,QY)::(lT,Pe)::KB::(EF,Qq)::(zG,JK)::(Ae,HI)::[]
theorem UT {q r:Rat} {n m:Nat}:bS T GA [] 60 D5 (az D5) ⟨aP 0 [.rat q n,.rat r m],[],0⟩=
  let c1:Prop:=0<1;some (ah.aj [c1,c1,c1,n<2^42,m<2^42,c1] (ah.aj [c1] (ah.leaf aq.ret [rat (q+sQ (decide (r<0)) r.num.natAbs r.den) (n+m+1)]))):=ag
theorem amf {q r:Rat} {n m:Nat}:bS T GA [] 60 Cp (az Cp) ⟨aP 0 [.rat q n,.rat r m],[],0⟩=
  let c1:Prop:=0<1;some (ah.aj [c1,c1,c1,n<2^42,m<2^42,c1] (ah.aj [c1] (ah.leaf aq.ret [rat (q+sQ (!decide (r<0)) r.num.natAbs r.den) (n+m+1)]))):=ag
theorem ah0 {q r:Rat} {n m:Nat}:bS T GA [8] 60 DO (az DO) ⟨aP 0 [.rat q n,.rat r m],[],0⟩=
  let c1:Prop:=0<1;some (ah.aj [c1,c1,m<2^42,n<2^42] (ah.fork (decide (e9 r q<(0:Int))) (ah.aj [c1,c1] (ah.aj [c1,m<2^44,c1] (ah.aj [c1] (ah.leaf aq.ret [rat r m])))) (ah.aj [c1,n<2^44,c1] (ah.aj [c1] (ah.leaf aq.ret [rat q n]))))):=ag
theorem akL {q r:Rat} {n m:Nat}:bS T GA [8] 60 DJ (az DJ) ⟨aP 0 [.rat q n,.rat r m],[],0⟩=
  let c1:Prop:=0<1;some (ah.aj [c1,c1,m<2^42,n<2^42] (ah.fork (decide (e9 r q>(0:Int))) (ah.aj [c1,c1] (ah.aj [c1,m<2^44,c1] (ah.aj [c1] (ah.leaf aq.ret [rat r m])))) (ah.aj [c1,n<2^44,c1] (ah.aj [c1] (ah.leaf aq.ret [rat q n]))))):=ag
theorem ajR {n:Int}:bS T GA [] 60 Dv (az Dv) ⟨aP 0 [.int .i64 n],[],0⟩=
  let c1:Rat:=sQ (decide (n<(0:Int))) n.natAbs 1;some (ah.aj [-(2:Int)^63<=n,n<(2:Int)^63,nl n.natAbs<2^40,nl 1<2^40,(0:Nat)<1] (ah.aj [(0:Nat)<1] (ah.leaf aq.ret [rat c1 (cR c1)]))):=ag
theorem ahX {q r:Rat} {n m:Nat}:bS T GQ [20,23,34,47,49,56,63,76] 60 FG (az FG) ⟨aP 0 [.rat q n,.rat r m],[],0⟩=
  let c14 : ah (List AV) := ah.leaf aq.ret [int IntKind.i64 (0 : Int)]; let c13 : Nat := q.num.natAbs; let c12 : Nat := r.num.natAbs; let c11 : ah (List AV) := ah.leaf aq.ret [int IntKind.i64 (1 : Int)]; let c10 : Bool := decide (q < 0); let c9 : ah (List AV) := ah.leaf aq.ret [int IntKind.i64 (-1 : Int)]; let c8 : Nat := if r.den = 1 then 0 else r.den; let c7 : Nat := if q.den = 1 then 0 else q.den; let c6 : Nat := 2 ^ 40; let c5 : Prop := 0 < 1; let c15 : Int := cZ (c13 * r.den) (c12 * q.den); let c4 : Int := IntKind.u64.wrap ((↑(if eE q = true then c13 else 0) : Int) * (↑(if eE r = true then r.den else 0) : Int)); let c3 : Int := IntKind.u64.wrap ((↑(if eE r = true then c12 else 0) : Int) * (↑(if eE q = true then q.den else 0) : Int)); let c2 : ah (List AV) := ah.aj [c5, c5, nl c13 < c6, nl r.den < c6, c5, c5, nl c12 < c6, nl q.den < c6, nl (c13 * r.den) < c6, nl (c12 * q.den) < c6] (ah.aj [c5] (ah.fork c10 (ah.leaf aq.ret [int IntKind.i64 (IntKind.i64.wrap ((0 : Int) - c15))]) (ah.leaf aq.ret [int IntKind.i64 c15]))); let c1 : ah (List AV) := ah.fork (decide (c4 < c3)) (ah.aj [c5] (ah.fork c10 c11 c9)) (ah.fork (decide (c4 > c3)) (ah.aj [c5] (ah.fork c10 c9 c11)) (ah.aj [c5] (ah.fork c10 c14 c14))); some (ah.aj [c5, n < 2 ^ 44, c5, m < 2 ^ 44] (ah.fork (fy q != fy r) (ah.fork (decide (fy q < fy r)) c9 c11) (ah.aj [c5] (ah.aj [c5, c5, nl c7 < c6, nl c8 < c6] (ah.fork (decide (c7 = c8)) (ah.aj [c5, c5, nl c13 < c6, nl c12 < c6] (ah.aj [c5] (ah.fork c10 (ah.leaf aq.ret [int IntKind.i64 (IntKind.i64.wrap ((0 : Int) - cZ c13 c12))]) (ah.leaf aq.ret [int IntKind.i64 (cZ c13 c12)])))) (ah.aj [c5] (ah.fork (eE q) (ah.aj [eE q = true] (ah.fork (bif true then eE r else false) c1 c2)) (ah.aj [eE q = false] (ah.fork false c1 c2))))))))) := ag
theorem Yl:∀K args pre r,QY K args pre=some r->aD P Ez K args pre r:=by
 refine cB fun K args r hk hs _=>?_
 split at hs
 ·simp only[ax]at hs
  subst hs
  exact fun need=>akH need.1 need.2 K [] trivial
 ·simp at hs
theorem Dy {q r:Rat} (h:fy q≠fy r):e9 q r=if fy q<fy r then-1 else 1:=by
 unfold fy e9 at*
 grind
theorem Xs {a b:Nat}:-cZ a b=cZ b a:=by unfold cZ;split<;>split<;>omega
theorem P4 {a b k:Nat} (hk:0<k):cZ (a*k) (b*k)=cZ a b:=by
 unfold cZ
 simp only[Nat.mul_lt_mul_right hk]
theorem Cc {a b:Nat}:IntKind.i64.wrap (0-cZ a b)=-cZ a b:=by
 have:cZ a b=-1\/cZ a b=0\/cZ a b=1:=by unfold cZ;split;exact .inl rfl;split;exact .inr (.inr rfl);exact .inr (.inl rfl)
 rcases this with h|h|h<;>rw[h]<;>rfl
theorem pG {q r:Rat} (h:fy q=fy r):e9 q r=if q<0 then-cZ (q.num.natAbs*r.den) (r.num.natAbs*q.den)else cZ (q.num.natAbs*r.den) (r.num.natAbs*q.den):=by
 have h1:q<0↔r<0:=by unfold fy at h;grind
 have e1:∀{a b:Nat},(-(a:Int))*(b:Int)=-((a*b:Nat):Int):=fun {a b}=>by simp[Int.neg_mul]
 have e2:∀{a b:Nat},(a:Int)*(b:Int)=((a*b:Nat):Int):=fun {a b}=>by simp
 unfold e9
 by_cases hq:q<0
 ·have hr:=h1.1 hq
  have q1:q.num=-(q.num.natAbs:Int):=by have:=jt.1 hq;omega
  have r1:r.num=-(r.num.natAbs:Int):=by have:=jt.1 hr;omega
  have l1:q<r↔r.num.natAbs*q.den<q.num.natAbs*r.den:=by
   rw[Rat.lt_iff]
   conv=>lhs;rw[q1,r1,e1,e1]
   omega
  have l2:r<q↔q.num.natAbs*r.den<r.num.natAbs*q.den:=by
   rw[Rat.lt_iff]
   conv=>lhs;rw[q1,r1,e1,e1]
   omega
  rw[if_pos hq,Xs]
  unfold cZ
  simp only[l1,l2]
 ·have hr:¬r<0:=fun h=>hq (h1.2 h)
  have q1:q.num=(q.num.natAbs:Int):=by have:¬q.num<0:=fun h=>hq (jt.2 h);omega
  have r1:r.num=(r.num.natAbs:Int):=by have:¬r.num<0:=fun h=>hr (jt.2 h);omega
  have l1:q<r↔q.num.natAbs*r.den<r.num.natAbs*q.den:=by
   rw[Rat.lt_iff]
   conv=>lhs;rw[q1,r1,e2,e2]
   omega
  have l2:r<q↔r.num.natAbs*q.den<q.num.natAbs*r.den:=by
   rw[Rat.lt_iff]
   conv=>lhs;rw[q1,r1,e2,e2]
   omega
  rw[if_neg hq]
  unfold cZ
  simp only[l1,l2]
theorem I8 {q r:Rat} {n m:Nat} (hn:n<2^42) (hm':m<2^42) (K:Nat) (pre:aF):aD P lT K [.rat q n,.rat r m] pre (aK (.int .i64 (e9 q r)) []):=by
 refine jL fun⟨hq,hr,_⟩=>?_
 have hq:Sz q n:=hq
 have hr:Sz r m:=hr
 obtain⟨a1,a2,a3⟩:=Sz.jX hq aa
 obtain⟨b1,b2,b3⟩:=Sz.jX hr aa
 have d1:=q.den_nz
 have d2:=r.den_nz
 have m1:nl (q.num.natAbs*r.den)<2^40:=jW (n:=n+m) (by rw[Nat.pow_add];exact Nat.mul_lt_mul'' hq.1 hr.2) aa
 have m2:nl (r.num.natAbs*q.den)<2^40:=jW (n:=m+n) (by rw[Nat.pow_add];exact Nat.mul_lt_mul'' hr.1 hq.2) aa
 refine bY hT mL hm aj0 rfl aW rfl 60 ahX (fun _=>?_) K pre
 simp only[ah.all,aA,bne_iff_ne,ne_eq,bne_eq_false_iff_eq]
 refine⟨⟨aa,aa,aa,aa⟩,fun hs=>⟨fun hl=>bN ?_,fun hl=>bN ?_⟩,fun hs=>⟨aa,⟨aa,aa,a3,b3⟩,fun hd=>⟨⟨aa,aa,a1,b1⟩,aa,fun hc=>bN ?_,fun hc=>bN ?_⟩,fun hd=>⟨aa,fun hp=>⟨hp,fun hp2=>?_,fun hp2=>⟨⟨aa,aa,a1,b2,aa,aa,b1,a2,m1,m2⟩,aa,fun hc=>bN ?_,fun hc=>bN ?_⟩⟩,fun hp=>⟨hp,fun h=>by simp at h,fun _=>⟨⟨aa,aa,a1,b2,aa,aa,b1,a2,m1,m2⟩,aa,fun hc=>bN ?_,fun hc=>bN ?_⟩⟩⟩⟩⟩
 ·rw[Dy hs,if_pos (of_decide_eq_true hl)]
 ·rw[Dy hs,if_neg (of_decide_eq_false hl)]
 ·have hd:=of_decide_eq_true hd
  have e:q.den=r.den:=by split at hd<;>split at hd<;>omega
  rw[pG hs,if_pos (of_decide_eq_true hc),e,P4 aa,Cc]
 ·have hd:=of_decide_eq_true hd
  have e:q.den=r.den:=by split at hd<;>split at hd<;>omega
  rw[pG hs,if_neg (of_decide_eq_false hc),e,P4 aa]
 ·have hp2:=jv hp2
  obtain⟨q1,q2⟩:=qM hp
  obtain⟨r1,r2⟩:=qM hp2
  rw[if_pos hp,if_pos hp2,if_pos hp2,if_pos hp,(oR q1 r2).1,(oR r1 q2).1]
  have hcs:=pG hs
  generalize q.num.natAbs*r.den=X at*
  generalize r.num.natAbs*q.den=Y at*
  unfold cZ at hcs
  refine⟨fun h1=>⟨aa,fun hc=>bN ?_,fun hc=>bN ?_⟩,fun h1=>⟨fun h2=>⟨aa,fun hc=>bN ?_,fun hc=>bN ?_⟩,fun h2=>⟨aa,fun hc=>bN ?_,fun hc=>bN ?_⟩⟩⟩
  all_goals rw[hcs]
  ·rw[if_pos (of_decide_eq_true hc),if_pos (by have:=of_decide_eq_true h1;omega)];rfl
  ·rw[if_neg (of_decide_eq_false hc),if_pos (by have:=of_decide_eq_true h1;omega)]
  ·rw[if_pos (of_decide_eq_true hc),if_neg (by have:=of_decide_eq_false h1;omega),if_pos (by have:=of_decide_eq_true h2;omega)]
  ·rw[if_neg (of_decide_eq_false hc),if_neg (by have:=of_decide_eq_false h1;omega),if_pos (by have:=of_decide_eq_true h2;omega)]
  ·rw[if_pos (of_decide_eq_true hc),if_neg (by have:=of_decide_eq_false h1;omega),if_neg (by have:=of_decide_eq_false h2;omega)];rfl
  ·rw[if_neg (of_decide_eq_false hc),if_neg (by have:=of_decide_eq_false h1;omega),if_neg (by have:=of_decide_eq_false h2;omega)]
 ·rw[pG hs,if_pos (of_decide_eq_true hc),Cc]
 ·rw[pG hs,if_neg (of_decide_eq_false hc)]
 ·rw[pG hs,if_pos (of_decide_eq_true hc),Cc]
 ·rw[pG hs,if_neg (of_decide_eq_false hc)]
theorem Zi:∀K args pre r,Pe K args pre=some r->aD P lT K args pre r:=by
 refine cB fun K args r hk hs _=>?_
 split at hs
 ·simp only[ax]at hs
  subst hs
  exact fun need=>I8 need.1 need.2 K [] trivial
 ·simp at hs
theorem adV:∀K args pre r,KB.2 K args pre=some r->aD P KB.1 K args pre r:=ahQ
theorem uu:bq P GA:=aH Yl (aH Zi (aH adV (aH Y6 (aH R4 (aH Tr bC)))))
section ops
variable {q r:Rat} {n m:Nat}
theorem OG (hn:n<2^42) (hm':m<2^42) (K:Nat):aD P Ce K [.rat q n,.rat r m] [] (aK (.rat (q+r) (n+m+1)) []):=by
 refine bY hT uu hm agc rfl aW rfl 60 UT (fun _=>?_) K []
 simp only[ah.all,aA,lS]
 exact⟨⟨aa,aa,aa,hn,hm',aa⟩,aa,.refl _⟩
theorem ahN (r:Rat):sQ (!decide (r<0)) r.num.natAbs r.den=-r:=by
 have h:=lS r
 conv=>rhs;rw[<-h]
 unfold sQ
 rw[Rat.neg_mkRat]
 congr 1
 unfold gq
 by_cases h:r<0<;>simp[h]
theorem M6 (hn:n<2^42) (hm':m<2^42) (K:Nat):aD P B5 K [.rat q n,.rat r m] [] (aK (.rat (q-r) (n+m+1)) []):=by
 refine bY hT uu hm agb rfl aW rfl 60 amf (fun _=>?_) K []
 simp only[ah.all,aA,ahN]
 exact⟨⟨aa,aa,aa,hn,hm',aa⟩,aa,dL (by rw[Rat.sub_eq_add_neg])⟩
def tc (q r:Rat):Rat:=if r<q then r else q
def o7 (q r:Rat):Rat:=if q<r then r else q
theorem pT {q r:Rat}:e9 q r<0↔q<r:=by unfold e9;grind
theorem uW {q r:Rat}:e9 q r>0↔r<q:=by unfold e9;grind
theorem aaM (hn:n<2^42) (hm':m<2^42) (K:Nat):aD P Iu K [.rat q n,.rat r m] [] (aK (.rat (tc q r) (max n m)) []):=by
 refine bY hT uu hm abB rfl aW rfl 60 ah0 (fun _=>?_) K []
 simp only[ah.all,aA,bh,bz,pT]
 refine⟨⟨aa,aa,hm',hn⟩,fun h=>⟨⟨aa,aa⟩,⟨aa,aa,aa⟩,aa,?_⟩,fun h=>⟨⟨aa,aa,aa⟩,aa,?_⟩⟩
 ·unfold tc;rw[if_pos h];exact gj (Nat.le_max_right _ _)
 ·unfold tc;rw[if_neg h];exact gj (Nat.le_max_left _ _)
theorem ZE (hn:n<2^42) (hm':m<2^42) (K:Nat):aD P KC K [.rat q n,.rat r m] [] (aK (.rat (o7 q r) (max n m)) []):=by
 refine bY hT uu hm Yh rfl aW rfl 60 akL (fun _=>?_) K []
 simp only[ah.all,aA,bh,bz,uW]
 refine⟨⟨aa,aa,hm',hn⟩,fun h=>⟨⟨aa,aa⟩,⟨aa,aa,aa⟩,aa,?_⟩,fun h=>⟨⟨aa,aa,aa⟩,aa,?_⟩⟩
 ·unfold o7;rw[if_pos h];exact gj (Nat.le_max_right _ _)
 ·unfold o7;rw[if_neg h];exact gj (Nat.le_max_left _ _)
theorem aaR {n:Int}:sQ (decide (n<0)) n.natAbs 1=(n:Rat):=by
 unfold sQ
 have:gq (decide (n<0)) n.natAbs=n:=by unfold gq;by_cases h:n<0<;>simp[h]<;>omega
 rw[this,Rat.mkRat_one]
theorem I6 {n:Int}:Sz (n:Rat) (max 1 (bM n.natAbs)):=by
 refine⟨?_,?_⟩
 ·rw[Rat.num_intCast]
  exact Nat.lt_of_lt_of_le (jz.1 aY) (Nat.pow_le_pow_right aa (Nat.le_max_right _ _))
 ·rw[Rat.den_intCast]
  exact Nat.lt_of_lt_of_le (show 1<2^1 by omega) (Nat.pow_le_pow_right aa (Nat.le_max_left _ _))
theorem Hs {n:Int} (h1:-2^63<=n) (h2:n<2^63) (K:Nat):aD P uT K [.int .i64 n] [] (aK (.rat (n:Rat) (max 1 (bM n.natAbs))) []):=by
 refine bY hT uu hm Xm rfl aW rfl 60 ajR (fun _=>?_) K []
 simp only[ah.all,aA,aaR]
 exact⟨⟨h1,h2,jW (n:=64) aa aa,by decide,aa⟩,aa,dc rfl I6⟩
theorem OO (hn:n<2^42) (hm':m<2^42) (K:Nat):aD P CA K [.rat q n,.rat r m] [] (aK (.rat (q*r) (n+m)) []):=by
 refine jL fun⟨hq,hr,_⟩=>?_
 have hq:Sz q n:=hq
 have hr:Sz r m:=hr
 obtain⟨a1,a2,a3⟩:=Sz.jX hq aa
 obtain⟨b1,b2,b3⟩:=Sz.jX hr aa
 have d1:=q.den_nz
 have d2:=r.den_nz
 have m1:nl (q.num.natAbs*r.num.natAbs)<2^40:=jW (n:=n+m) (by rw[Nat.pow_add];exact Nat.mul_lt_mul'' hq.1 hr.1) aa
 have m2:nl (q.den*r.den)<2^40:=jW (n:=n+m) (by rw[Nat.pow_add];exact Nat.mul_lt_mul'' hq.2 hr.2) aa
 have hz:=hq.mul hr
 have hv:sQ (decide (q<0)!=decide (r<0)) (q.num.natAbs*r.num.natAbs) (q.den*r.den)=q*r:=by rw[<-Iv,lS,lS]
 have hzero:q=0\/r=0->bF (.agg [.bool false,.mag 0,.mag 0]) (.rat (q*r) (n+m)):=by
  intro h
  have e:q*r=0:=by rcases h with h|h<;>subst h<;>simp
  obtain⟨k,hk⟩:∃k,n+m=k+1:=⟨n+m-1,by have:=hq.pos;omega⟩
  rw[e,hk];exact mc
 refine bY hT mL hm aiQ rfl aW rfl 60 ajx (fun _=>?_) K []
 have hlong:(ah.aj
         [(0:Nat)<1,(0:Nat)<1,(0:Nat)<1,(0:Nat)<1,nl q.num.natAbs<2^40,nl r.num.natAbs<2^40,(0:Nat)<1,(0:Nat)<1,nl q.den<2^40,nl r.den<2^40,nl (q.num.natAbs*r.num.natAbs)<2^40,nl (q.den*r.den)<2^40,(0:Nat)<1]
         (ah.aj [(0:Nat)<1]
          (ah.leaf aq.ret
           [AV.rat (sQ (decide (q<(0:Rat))!=decide (r<(0:Rat))) (q.num.natAbs*r.num.natAbs) (q.den*r.den))
             (cR (sQ (decide (q<(0:Rat))!=decide (r<(0:Rat))) (q.num.natAbs*r.num.natAbs) (q.den*r.den)))]))).all fun _ us=>en us (.rat (q*r) (n+m)):=by
  simp only[ah.all,aA]
  exact⟨⟨aa,aa,aa,aa,a1,b1,aa,aa,a2,b2,m1,m2,aa⟩,aa,dc hv hz⟩
 refine⟨fun hb=>⟨⟨show 0<1 by omega,hb⟩,fun _=>⟨show 0<1 by omega,show 0<1 by omega,hzero (.inl ?_)⟩,fun h=>by simp at h⟩,fun hb=>⟨⟨show 0<1 by omega,hb,show 0<1 by omega⟩,fun hc=>⟨show 0<1 by omega,show 0<1 by omega,hzero (.inr ?_)⟩,fun hc=>⟨show 0<1 by omega,fun h1=>⟨show 0<1 by omega,fun h2=>?_,fun h2=>hlong⟩,fun h1=>hlong⟩⟩⟩
 ·have:=eq_of_beq hb
  exact oz.1 (jK.1 aa)
 ·have:=eq_of_beq (iQ hc)
  exact oz.1 (jK.1 aa)
 ·obtain⟨q1,q2⟩:=qM h1
  obtain⟨r1,r2⟩:=qM h2
  obtain⟨wx,bx⟩:=oR q1 r1
  obtain⟨wd,bd⟩:=oR q2 r2
  have hd0:q.den*r.den≠0:=Nat.mul_ne_zero d1 d2
  rw[if_pos h1,if_pos h2,if_pos h1,if_pos h2,wx,wd]
  simp only[ah.all,aA,aZ]
  exact⟨⟨aa,aa,aa,aa,aa⟩,aa,dc hv hz⟩
theorem Ga (q r:Rat) (hr:r≠0):sQ (decide (q<0)!=decide (r<0)) (q.num.natAbs*r.den) (q.den*r.num.natAbs)=q/r:=by
 have hn:r.num≠0:=fun h=>hr (Rat.num_eq_zero.1 h)
 have hi:r⁻¹=sQ (decide (r<0)) r.den r.num.natAbs:=by
  rw[<-lS r⁻¹]
  have e1:r⁻¹.num.natAbs=r.den:=by rw[Rat.num_inv,Int.natAbs_mul,Int.natAbs_natCast,Int.natAbs_sign_of_ne_zero hn,Nat.one_mul]
  have e2:r⁻¹.den=r.num.natAbs:=by rw[Rat.den_inv,if_neg hn]
  have e3:decide (r⁻¹<0)=decide (r<0):=by
   rw[decide_eq_decide,jt,jt,Rat.num_inv]
   have hd:=r.den_nz
   have hd':(0:Int)<(r.den:Int):=aa
   rcases Int.lt_trichotomy r.num 0 with h|h|h
   ·rw[Int.sign_eq_neg_one_of_neg h];omega
   ·exact absurd h hn
   ·rw[Int.sign_eq_one_of_pos h];omega
  rw[e1,e2,e3]
 rw[Rat.div_def,hi]
 conv=>rhs;rw[<-lS q]
 rw[Iv]
theorem Ci (hn:n<2^42) (hm':m<2^42) (K:Nat):aD P vC K [.rat q n,.rat r m] [] (aK (.tuple [.rat (q/r) (n+m),.int .i64 (if r=0 then 3 else 0)]) []):=by
 refine jL fun⟨hq,hr,_⟩=>?_
 have hq:Sz q n:=hq
 have hr:Sz r m:=hr
 obtain⟨a1,a2,a3⟩:=Sz.jX hq aa
 obtain⟨b1,b2,b3⟩:=Sz.jX hr aa
 have d1:=q.den_nz
 have d2:=r.den_nz
 have m1:nl (q.num.natAbs*r.den)<2^40:=jW (n:=n+m) (by rw[Nat.pow_add];exact Nat.mul_lt_mul'' hq.1 hr.2) aa
 have m2:nl (q.den*r.num.natAbs)<2^40:=jW (n:=n+m) (by rw[Nat.pow_add];exact Nat.mul_lt_mul'' hq.2 hr.1) aa
 have hz:=hq.div hr
 have sg:∀{x:Rat},fy x=0↔x=0:=by intro x;unfold fy;grind
 refine bY hT mL hm afb rfl aW rfl 60 akB (fun _=>?_) K []
 refine⟨⟨show 0<1 by omega,show m<2^44 by omega⟩,fun hb=>⟨show 0<1 by omega,show 0<1 by omega,?_,?_,trivial⟩,fun hb=>⟨show 0<1 by omega,?_⟩⟩
 ·have h0:r=0:=sg.1 (eq_of_beq hb)
  have e:q/r=0:=by rw[h0,Rat.div_def,Rat.inv_zero,Rat.mul_zero]
  obtain⟨k,hk⟩:∃k,n+m=k+1:=⟨n+m-1,by have:=hq.pos;omega⟩
  rw[e,hk];exact mc
 ·have h0:r=0:=sg.1 (eq_of_beq hb)
  exact bN (by rw[if_pos h0])
 have h0:r≠0:=fun h=>by
  rw[h]at hb
  simp[fy]at hb
 have hv:=Ga q r h0
 have he:bF (.int .i64 0) (.int .i64 (if r=0 then 3 else 0)):=bN (by rw[if_neg h0])
 have hlong:(ah.aj
         [(0:Nat)<1,(0:Nat)<1,(0:Nat)<1,(0:Nat)<1,nl q.num.natAbs<2^40,nl r.den<2^40,(0:Nat)<1,(0:Nat)<1,nl q.den<2^40,nl r.num.natAbs<2^40,nl (q.num.natAbs*r.den)<2^40,nl (q.den*r.num.natAbs)<2^40,(0:Nat)<1]
         (ah.aj [(0:Nat)<1]
          (ah.leaf aq.ret
           [AV.rat (sQ (decide (q<(0:Rat))!=decide (r<(0:Rat))) (q.num.natAbs*r.den) (q.den*r.num.natAbs))
             (cR (sQ (decide (q<(0:Rat))!=decide (r<(0:Rat))) (q.num.natAbs*r.den) (q.den*r.num.natAbs))),.int .i64 0]))).all fun _ us=>en us (.tuple [.rat (q/r) (n+m),.int .i64 (if r=0 then 3 else 0)]):=by
  simp only[ah.all,aA]
  exact⟨⟨aa,aa,aa,aa,a1,b2,aa,aa,a2,b1,m1,m2,aa⟩,aa,dc hv hz,he,trivial⟩
 refine⟨fun h1=>⟨show 0<1 by omega,fun h2=>?_,fun h2=>hlong⟩,fun h1=>hlong⟩
 obtain⟨q1,q2⟩:=qM h1
 obtain⟨r1,r2⟩:=qM h2
 obtain⟨wx,bx⟩:=oR q1 r2
 obtain⟨wd,bd⟩:=oR q2 r1
 have hr0:r.num.natAbs≠0:=fun h=>h0 (oz.1 h)
 have hd0:q.den*r.num.natAbs≠0:=Nat.mul_ne_zero d1 hr0
 rw[if_pos h1,if_pos h2,if_pos h1,if_pos h2,wx,wd]
 simp only[ah.all,aA,aZ]
 exact⟨⟨aa,aa,aa,aa,aa⟩,aa,dc hv hz,he,trivial⟩
end ops
def ME:Spec:=bU fun l=>match l with
 |[.int .i64 n]=>some (aK (.rat (n:Rat) (max 1 (bM n.natAbs))) [-2^63<=n,n<2^63])
 |_=>none
theorem aiv:∀K args pre r,ME K args pre=some r->aD P uT K args pre r:=by
 refine cB fun K args r hk hs _=>?_
 split at hs
 ·simp only[ax]at hs
  subst hs
  exact fun need=>Hs need.1 need.2 K trivial
 ·simp at hs
end Go.Am.B
