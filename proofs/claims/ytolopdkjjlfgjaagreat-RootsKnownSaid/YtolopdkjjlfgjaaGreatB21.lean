/- rational.Add, Sub, Mul, Quo, Cmp, Min, Max, Int. -/
import Derived.Test.YtolopdkjjlfgjaaGreatB20
set_option linter.unusedVariables false
namespace Go.Am.B
open Go Go.Am.N AV Proofs.Tryz IntKind
theorem aeb:bC 128 f128:=bD func128
theorem X0:bC 143 f143:=bD func143
theorem Rv:bC 130 f130:=bD func130
theorem Ze:bC 131 f131:=bD func131
theorem adu:bC 71 f71:=bD func71
def Ke:Spec:=cw fun l=>match l with
 |[.rat q n,.rat r m,.bool s]=>some (aT (.rat (q+sQ s r.num.natAbs r.den) (n+m+1)) [n<2^42,m<2^42])
 |_=>none
def IQ:Spec:=cw fun l=>match l with
 |[.rat q n,.rat r m]=>some (aT (.int .i64 (gr q r)) [n<2^42,m<2^42])
 |_=>none
abbrev C8:FuncId×Spec:=(166,MJ)
def GA:bG:=(164,Ke)::(58,IQ)::C8::(134,Ja)::(132,D9)::(133,Ga)::[]
theorem afT {q r:Rat} {n m:Nat}:cy T GA [] 60 f128 (aJ f128) ⟨bf 0 [.rat q n,.rat r m],[],0⟩=
  let c1:Prop:=0<1;some (af.aj [c1,c1,c1,n<2^42,m<2^42,c1] (af.aj [c1] (af.leaf au.ret [rat (q+sQ (decide (r<0)) r.num.natAbs r.den) (n+m+1)]))):=ah
theorem SQ {q r:Rat} {n m:Nat}:cy T GA [] 60 f143 (aJ f143) ⟨bf 0 [.rat q n,.rat r m],[],0⟩=
  let c1:Prop:=0<1;some (af.aj [c1,c1,c1,n<2^42,m<2^42,c1] (af.aj [c1] (af.leaf au.ret [rat (q+sQ (!decide (r<0)) r.num.natAbs r.den) (n+m+1)]))):=ah
theorem afN {q r:Rat} {n m:Nat}:cy T GA [8] 60 f130 (aJ f130) ⟨bf 0 [.rat q n,.rat r m],[],0⟩=
  let c1:Prop:=0<1;some (af.aj [c1,c1,m<2^42,n<2^42] (af.fork (decide (gr r q<0)) (af.aj [c1,c1] (af.aj [c1,m<2^44,c1] (af.aj [c1] (af.leaf au.ret [rat r m])))) (af.aj [c1,n<2^44,c1] (af.aj [c1] (af.leaf au.ret [rat q n]))))):=ah
theorem YD {q r:Rat} {n m:Nat}:cy T GA [8] 60 f131 (aJ f131) ⟨bf 0 [.rat q n,.rat r m],[],0⟩=
  let c1:Prop:=0<1;some (af.aj [c1,c1,m<2^42,n<2^42] (af.fork (decide (gr r q>0)) (af.aj [c1,c1] (af.aj [c1,m<2^44,c1] (af.aj [c1] (af.leaf au.ret [rat r m])))) (af.aj [c1,n<2^44,c1] (af.aj [c1] (af.leaf au.ret [rat q n]))))):=ah
theorem R3 {n:Int}:cy T GA [] 60 f71 (aJ f71) ⟨bf 0 [.int .i64 n],[],0⟩=
  let c1:Rat:=sQ (decide (n<0)) n.natAbs 1;some (af.aj [-(2:Int)^63<=n,n<2^63,nl n.natAbs<2^40,nl 1<2^40,(0:Nat)<1] (af.aj [(0:Nat)<1] (af.leaf au.ret [rat c1 (dQ c1)]))):=ah
theorem abg {q r:Rat} {n m:Nat}:cy T GQ [20,23,34,47,49,56,63,76] 60 f58 (aJ f58) ⟨bf 0 [.rat q n,.rat r m],[],0⟩=
  let c14:af (List AV):=af.leaf au.ret [int .i64 (0:Int)];let c13:Nat:=q.num.natAbs;let c12:Nat:=r.num.natAbs;let c11:af (List AV):=af.leaf au.ret [int .i64 (1:Int)];let c10:Bool:=decide (q<0);let c9:af (List AV):=af.leaf au.ret [int .i64 (-1:Int)];let c8:Nat:=if r.den=1 then 0 else r.den;let c7:Nat:=if q.den=1 then 0 else q.den;let c6:Nat:=2^40;let c5:Prop:=0<1;let c15:Int:=dG (c13*r.den) (c12*q.den);let c4:Int:=u64.wrap ((↑(if fB q=true then c13 else 0):Int)*(↑(if fB r=true then r.den else 0):Int));let c3:Int:=u64.wrap ((↑(if fB r=true then c12 else 0):Int)*(↑(if fB q=true then q.den else 0):Int));let c2:af (List AV):=af.aj [c5,c5,nl c13<c6,nl r.den<c6,c5,c5,nl c12<c6,nl q.den<c6,nl (c13*r.den)<c6,nl (c12*q.den)<c6] (af.aj [c5] (af.fork c10 (af.leaf au.ret [int .i64 (i64.wrap ((0:Int)-c15))]) (af.leaf au.ret [int .i64 c15])));let c1:af (List AV):=af.fork (decide (c4<c3)) (af.aj [c5] (af.fork c10 c11 c9)) (af.fork (decide (c4>c3)) (af.aj [c5] (af.fork c10 c9 c11)) (af.aj [c5] (af.fork c10 c14 c14)));some (af.aj [c5,n<2^44,c5,m<2^44] (af.fork (bR q !=bR r) (af.fork (decide (bR q<bR r)) c9 c11) (af.aj [c5] (af.aj [c5,c5,nl c7<c6,nl c8<c6] (af.fork (decide (c7=c8)) (af.aj [c5,c5,nl c13<c6,nl c12<c6] (af.aj [c5] (af.fork c10 (af.leaf au.ret [int .i64 (i64.wrap ((0:Int)-dG c13 c12))]) (af.leaf au.ret [int .i64 (dG c13 c12)])))) (af.aj [c5] (af.fork (fB q) (af.aj [fB q=true] (af.fork (bif true then fB r else false) c1 c2)) (af.aj [fB q=false] (af.fork false c1 c2))))))))):=ah
theorem Wr:bF P Ke 164:=by
 refine cY fun K args r hk hs _=>?_
 split at hs
 ·simp only[aB]at hs
  subst hs
  exact fun need=>PF need.1 need.2 K [] trivial
 ·simp at hs
theorem Cs {q r:Rat} (h:bR q≠bR r):gr q r=if bR q<bR r then-1 else 1:=by
 unfold bR gr at*
 grind
theorem ZR {a b:Nat}:-dG a b=dG b a:=by unfold dG;split<;>split<;>omega
theorem IK {a b k:Nat} (hk:0<k):dG (a*k) (b*k)=dG a b:=by
 unfold dG
 simp only[Nat.mul_lt_mul_right hk]
theorem AK {a b:Nat}:i64.wrap (0-dG a b)=-dG a b:=by
 have:dG a b=-1\/dG a b=0\/dG a b=1:=by unfold dG;split;exact .inl rfl;split;exact .inr (.inr rfl);exact .inr (.inl rfl)
 rcases this with h|h|h<;>rw[h]<;>rfl
theorem qc {q r:Rat} (h:bR q=bR r):gr q r=if q<0 then-dG (q.num.natAbs*r.den) (r.num.natAbs*q.den)else dG (q.num.natAbs*r.den) (r.num.natAbs*q.den):=by
 have h1:q<0↔r<0:=by unfold bR at h;grind
 have e1:∀{a b:Nat},(-(a:Int))*(b:Int)=-((a*b:Nat):Int):=fun {a b}=>by simp[Int.neg_mul]
 have e2:∀{a b:Nat},(a:Int)*(b:Int)=((a*b:Nat):Int):=fun {a b}=>by simp
 unfold gr
 by_cases hq:q<0
 ·have hr:=h1.1 hq
  have q1:q.num=-(q.num.natAbs:Int):=by have:=jX.1 hq;omega
  have r1:r.num=-(r.num.natAbs:Int):=by have:=jX.1 hr;omega
  have l1:q<r↔r.num.natAbs*q.den<q.num.natAbs*r.den:=by
   rw[Rat.lt_iff]
   conv=>lhs;rw[q1,r1,e1,e1]
   omega
  have l2:r<q↔q.num.natAbs*r.den<r.num.natAbs*q.den:=by
   rw[Rat.lt_iff]
   conv=>lhs;rw[q1,r1,e1,e1]
   omega
  rw[if_pos hq,ZR]
  unfold dG
  simp only[l1,l2]
 ·have hr:¬r<0:=fun h=>hq (h1.2 h)
  have q1:q.num=(q.num.natAbs:Int):=by have:¬q.num<0:=fun h=>hq (jX.2 h);omega
  have r1:r.num=(r.num.natAbs:Int):=by have:¬r.num<0:=fun h=>hr (jX.2 h);omega
  have l1:q<r↔q.num.natAbs*r.den<r.num.natAbs*q.den:=by
   rw[Rat.lt_iff]
   conv=>lhs;rw[q1,r1,e2,e2]
   omega
  have l2:r<q↔r.num.natAbs*q.den<q.num.natAbs*r.den:=by
   rw[Rat.lt_iff]
   conv=>lhs;rw[q1,r1,e2,e2]
   omega
  rw[if_neg hq]
  unfold dG
  simp only[l1,l2]
theorem KL {q r:Rat} {n m:Nat} (hn:n<2^42) (hm':m<2^42) (K:Nat) (pre:aG):aY P 58 K [.rat q n,.rat r m] pre (aT (.int .i64 (gr q r)) []):=by
 refine lX fun⟨hq,hr,_⟩=>?_
 have hq:Sz q n:=hq
 have hr:Sz r m:=hr
 obtain⟨a1,a2,a3⟩:=Sz.lD hq aa
 obtain⟨b1,b2,b3⟩:=Sz.lD hr aa
 have d1:=q.den_nz
 have d2:=r.den_nz
 have m1:nl (q.num.natAbs*r.den)<2^40:=mb (n:=n+m) (by rw[Nat.pow_add];exact Nat.mul_lt_mul'' hq.1 hr.2) aa
 have m2:nl (r.num.natAbs*q.den)<2^40:=mb (n:=m+n) (by rw[Nat.pow_add];exact Nat.mul_lt_mul'' hr.1 hq.2) aa
 refine cB hT nB hm Yo rfl br rfl 60 abg (fun _=>?_) K pre
 simp only[af.all,aF,bne_iff_ne,ne_eq,bne_eq_false_iff_eq]
 refine⟨⟨aa,aa,aa,aa⟩,fun hs=>⟨fun hl=>cu ?_,fun hl=>cu ?_⟩,fun hs=>⟨aa,⟨aa,aa,a3,b3⟩,fun hd=>⟨⟨aa,aa,a1,b1⟩,aa,fun hc=>cu ?_,fun hc=>cu ?_⟩,fun hd=>⟨aa,fun hp=>⟨hp,fun hp2=>?_,fun hp2=>⟨⟨aa,aa,a1,b2,aa,aa,b1,a2,m1,m2⟩,aa,fun hc=>cu ?_,fun hc=>cu ?_⟩⟩,fun hp=>⟨hp,fun h=>by simp at h,fun _=>⟨⟨aa,aa,a1,b2,aa,aa,b1,a2,m1,m2⟩,aa,fun hc=>cu ?_,fun hc=>cu ?_⟩⟩⟩⟩⟩
 ·rw[Cs hs,if_pos (of_decide_eq_true hl)]
 ·rw[Cs hs,if_neg (of_decide_eq_false hl)]
 ·have hd:=of_decide_eq_true hd
  have e:q.den=r.den:=by split at hd<;>split at hd<;>omega
  rw[qc hs,if_pos (of_decide_eq_true hc),e,IK aa,AK]
 ·have hd:=of_decide_eq_true hd
  have e:q.den=r.den:=by split at hd<;>split at hd<;>omega
  rw[qc hs,if_neg (of_decide_eq_false hc),e,IK aa]
 ·have hp2:=kP hp2
  obtain⟨q1,q2⟩:=rD hp
  obtain⟨r1,r2⟩:=rD hp2
  rw[if_pos hp,if_pos hp2,if_pos hp2,if_pos hp,(pP q1 r2).1,(pP r1 q2).1]
  have hcs:=qc hs
  generalize q.num.natAbs*r.den=X at*
  generalize r.num.natAbs*q.den=Y at*
  unfold dG at hcs
  refine⟨fun h1=>⟨aa,fun hc=>cu ?_,fun hc=>cu ?_⟩,fun h1=>⟨fun h2=>⟨aa,fun hc=>cu ?_,fun hc=>cu ?_⟩,fun h2=>⟨aa,fun hc=>cu ?_,fun hc=>cu ?_⟩⟩⟩
  all_goals rw[hcs]
  ·rw[if_pos (of_decide_eq_true hc),if_pos (by have:=of_decide_eq_true h1;omega)];rfl
  ·rw[if_neg (of_decide_eq_false hc),if_pos (by have:=of_decide_eq_true h1;omega)]
  ·rw[if_pos (of_decide_eq_true hc),if_neg (by have:=of_decide_eq_false h1;omega),if_pos (by have:=of_decide_eq_true h2;omega)]
  ·rw[if_neg (of_decide_eq_false hc),if_neg (by have:=of_decide_eq_false h1;omega),if_pos (by have:=of_decide_eq_true h2;omega)]
  ·rw[if_pos (of_decide_eq_true hc),if_neg (by have:=of_decide_eq_false h1;omega),if_neg (by have:=of_decide_eq_false h2;omega)];rfl
  ·rw[if_neg (of_decide_eq_false hc),if_neg (by have:=of_decide_eq_false h1;omega),if_neg (by have:=of_decide_eq_false h2;omega)]
 ·rw[qc hs,if_pos (of_decide_eq_true hc),AK]
 ·rw[qc hs,if_neg (of_decide_eq_false hc)]
 ·rw[qc hs,if_pos (of_decide_eq_true hc),AK]
 ·rw[qc hs,if_neg (of_decide_eq_false hc)]
theorem adT:bF P IQ 58:=by
 refine cY fun K args r hk hs _=>?_
 split at hs
 ·simp only[aB]at hs
  subst hs
  exact fun need=>KL need.1 need.2 K [] trivial
 ·simp at hs
theorem abG:bF P C8.2 C8.1:=ae8
theorem yI:cm P GA:=aM Wr (aM adT (aM abG (aM TT (aM K5 (aM KP cK)))))
section ops
variable {q r:Rat} {n m:Nat}
theorem ab9 (hn:n<2^42) (hm':m<2^42) (K:Nat):aY P 128 K [.rat q n,.rat r m] [] (aT (.rat (q+r) (n+m+1)) []):=by
 refine cB hT yI hm aeb rfl br rfl 60 afT (fun _=>?_) K []
 simp only[af.all,aF,mF]
 exact⟨⟨aa,aa,aa,hn,hm',aa⟩,aa,.refl _⟩
theorem aaO (r:Rat):sQ (!decide (r<0)) r.num.natAbs r.den=-r:=by
 have h:=mF r
 conv=>rhs;rw[<-h]
 unfold sQ
 rw[Rat.neg_mkRat]
 congr 1
 unfold gk
 by_cases h:r<0<;>simp[h]
theorem adL (hn:n<2^42) (hm':m<2^42) (K:Nat):aY P 143 K [.rat q n,.rat r m] [] (aT (.rat (q-r) (n+m+1)) []):=by
 refine cB hT yI hm X0 rfl br rfl 60 SQ (fun _=>?_) K []
 simp only[af.all,aF,aaO]
 exact⟨⟨aa,aa,aa,hn,hm',aa⟩,aa,fo (by rw[Rat.sub_eq_add_neg])⟩
def gj (q r:Rat):Rat:=if r<q then r else q
def fQ (q r:Rat):Rat:=if q<r then r else q
theorem AM {q r:Rat}:gr q r<0↔q<r:=by unfold gr;grind
theorem OC {q r:Rat}:gr q r>0↔r<q:=by unfold gr;grind
theorem Zz (hn:n<2^42) (hm':m<2^42) (K:Nat):aY P 130 K [.rat q n,.rat r m] [] (aT (.rat (gj q r) (max n m)) []):=by
 refine cB hT yI hm Rv rfl br rfl 60 afN (fun _=>?_) K []
 simp only[af.all,aF,bI,bO,AM]
 refine⟨⟨aa,aa,hm',hn⟩,fun h=>⟨⟨aa,aa⟩,⟨aa,aa,aa⟩,aa,?_⟩,fun h=>⟨⟨aa,aa,aa⟩,aa,?_⟩⟩
 ·unfold gj;rw[if_pos h];exact oJ (Nat.le_max_right _ _)
 ·unfold gj;rw[if_neg h];exact oJ (Nat.le_max_left _ _)
theorem Rp (hn:n<2^42) (hm':m<2^42) (K:Nat):aY P 131 K [.rat q n,.rat r m] [] (aT (.rat (fQ q r) (max n m)) []):=by
 refine cB hT yI hm Ze rfl br rfl 60 YD (fun _=>?_) K []
 simp only[af.all,aF,bI,bO,OC]
 refine⟨⟨aa,aa,hm',hn⟩,fun h=>⟨⟨aa,aa⟩,⟨aa,aa,aa⟩,aa,?_⟩,fun h=>⟨⟨aa,aa,aa⟩,aa,?_⟩⟩
 ·unfold fQ;rw[if_pos h];exact oJ (Nat.le_max_right _ _)
 ·unfold fQ;rw[if_neg h];exact oJ (Nat.le_max_left _ _)
theorem YM {n:Int}:sQ (decide (n<0)) n.natAbs 1=(n:Rat):=by
 unfold sQ
 have:gk (decide (n<0)) n.natAbs=n:=by unfold gk;by_cases h:n<0<;>simp[h]<;>omega
 rw[this,Rat.mkRat_one]
theorem CM {n:Int}:Sz (n:Rat) (max 1 (bU n.natAbs)):=by
 refine⟨?_,?_⟩
 ·rw[Rat.num_intCast]
  exact Nat.lt_of_lt_of_le (lK.1 aX) (Nat.pow_le_pow_right aa (Nat.le_max_right _ _))
 ·rw[Rat.den_intCast]
  exact Nat.lt_of_lt_of_le (show 1<2^1 by omega) (Nat.pow_le_pow_right aa (Nat.le_max_left _ _))
theorem Rf {n:Int} (h1:-2^63<=n) (h2:n<2^63) (K:Nat):aY P 71 K [.int .i64 n] [] (aT (.rat (n:Rat) (max 1 (bU n.natAbs))) []):=by
 refine cB hT yI hm adu rfl br rfl 60 R3 (fun _=>?_) K []
 simp only[af.all,aF,YM]
 exact⟨⟨h1,h2,mb (n:=64) aa aa,by decide,aa⟩,aa,fO rfl CM⟩
theorem J0 (hn:n<2^42) (hm':m<2^42) (K:Nat):aY P 129 K [.rat q n,.rat r m] [] (aT (.rat (q*r) (n+m)) []):=by
 refine lX fun⟨hq,hr,_⟩=>?_
 have hq:Sz q n:=hq
 have hr:Sz r m:=hr
 obtain⟨a1,a2,a3⟩:=Sz.lD hq aa
 obtain⟨b1,b2,b3⟩:=Sz.lD hr aa
 have d1:=q.den_nz
 have d2:=r.den_nz
 have m1:nl (q.num.natAbs*r.num.natAbs)<2^40:=mb (n:=n+m) (by rw[Nat.pow_add];exact Nat.mul_lt_mul'' hq.1 hr.1) aa
 have m2:nl (q.den*r.den)<2^40:=mb (n:=n+m) (by rw[Nat.pow_add];exact Nat.mul_lt_mul'' hq.2 hr.2) aa
 have hz:=hq.mul hr
 have hv:sQ (decide (q<0)!=decide (r<0)) (q.num.natAbs*r.num.natAbs) (q.den*r.den)=q*r:=by rw[<-G5,mF,mF]
 have hzero:q=0\/r=0->bg (.agg [.bool false,.mag 0,.mag 0]) (.rat (q*r) (n+m)):=by
  intro h
  have e:q*r=0:=by rcases h with h|h<;>subst h<;>simp
  obtain⟨k,hk⟩:∃k,n+m=k+1:=⟨n+m-1,by have:=hq.pos;omega⟩
  rw[e,hk];exact pD
 refine cB hT nB hm aaD rfl br rfl 60 WQ (fun _=>?_) K []
 have hlong:(af.aj
         [(0:Nat)<1,(0:Nat)<1,(0:Nat)<1,(0:Nat)<1,nl q.num.natAbs<2^40,nl r.num.natAbs<2^40,(0:Nat)<1,(0:Nat)<1,nl q.den<2^40,nl r.den<2^40,nl (q.num.natAbs*r.num.natAbs)<2^40,nl (q.den*r.den)<2^40,(0:Nat)<1]
         (af.aj [(0:Nat)<1]
          (af.leaf au.ret
           [AV.rat (sQ (decide (q<0)!=decide (r<0)) (q.num.natAbs*r.num.natAbs) (q.den*r.den))
             (dQ (sQ (decide (q<0)!=decide (r<0)) (q.num.natAbs*r.num.natAbs) (q.den*r.den)))]))).all fun _ us=>iW us (.rat (q*r) (n+m)):=by
  simp only[af.all,aF]
  exact⟨⟨aa,aa,aa,aa,a1,b1,aa,aa,a2,b2,m1,m2,aa⟩,aa,fO hv hz⟩
 refine⟨fun hb=>⟨⟨show 0<1 by omega,hb⟩,fun _=>⟨show 0<1 by omega,show 0<1 by omega,hzero (.inl ?_)⟩,fun h=>by simp at h⟩,fun hb=>⟨⟨show 0<1 by omega,hb,show 0<1 by omega⟩,fun hc=>⟨show 0<1 by omega,show 0<1 by omega,hzero (.inr ?_)⟩,fun hc=>⟨show 0<1 by omega,fun h1=>⟨show 0<1 by omega,fun h2=>?_,fun h2=>hlong⟩,fun h1=>hlong⟩⟩⟩
 ·have:=eq_of_beq hb
  exact oS.1 (kA.1 aa)
 ·have:=eq_of_beq (jC hc)
  exact oS.1 (kA.1 aa)
 ·obtain⟨q1,q2⟩:=rD h1
  obtain⟨r1,r2⟩:=rD h2
  obtain⟨wx,bx⟩:=pP q1 r1
  obtain⟨wd,bd⟩:=pP q2 r2
  have hd0:q.den*r.den≠0:=Nat.mul_ne_zero d1 d2
  rw[if_pos h1,if_pos h2,if_pos h1,if_pos h2,wx,wd]
  simp only[af.all,aF,bJ]
  exact⟨⟨aa,aa,aa,aa,aa⟩,aa,fO hv hz⟩
theorem CR (q r:Rat) (hr:r≠0):sQ (decide (q<0)!=decide (r<0)) (q.num.natAbs*r.den) (q.den*r.num.natAbs)=q/r:=by
 have hn:r.num≠0:=fun h=>hr (Rat.num_eq_zero.1 h)
 have hi:r⁻¹=sQ (decide (r<0)) r.den r.num.natAbs:=by
  rw[<-mF r⁻¹]
  have e1:r⁻¹.num.natAbs=r.den:=by rw[Rat.num_inv,Int.natAbs_mul,Int.natAbs_natCast,Int.natAbs_sign_of_ne_zero hn,Nat.one_mul]
  have e2:r⁻¹.den=r.num.natAbs:=by rw[Rat.den_inv,if_neg hn]
  have e3:decide (r⁻¹<0)=decide (r<0):=by
   rw[decide_eq_decide,jX,jX,Rat.num_inv]
   have hd:=r.den_nz
   have hd':(0:Int)<(r.den:Int):=aa
   rcases Int.lt_trichotomy r.num 0 with h|h|h
   ·rw[Int.sign_eq_neg_one_of_neg h];omega
   ·exact absurd h hn
   ·rw[Int.sign_eq_one_of_pos h];omega
  rw[e1,e2,e3]
 rw[Rat.div_def,hi]
 conv=>rhs;rw[<-mF q]
 rw[G5]
theorem DJ (hn:n<2^42) (hm':m<2^42) (K:Nat):aY P 142 K [.rat q n,.rat r m] [] (aT (.tuple [.rat (q/r) (n+m),.int .i64 (if r=0 then 3 else 0)]) []):=by
 refine lX fun⟨hq,hr,_⟩=>?_
 have hq:Sz q n:=hq
 have hr:Sz r m:=hr
 obtain⟨a1,a2,a3⟩:=Sz.lD hq aa
 obtain⟨b1,b2,b3⟩:=Sz.lD hr aa
 have d1:=q.den_nz
 have d2:=r.den_nz
 have m1:nl (q.num.natAbs*r.den)<2^40:=mb (n:=n+m) (by rw[Nat.pow_add];exact Nat.mul_lt_mul'' hq.1 hr.2) aa
 have m2:nl (q.den*r.num.natAbs)<2^40:=mb (n:=n+m) (by rw[Nat.pow_add];exact Nat.mul_lt_mul'' hq.2 hr.1) aa
 have hz:=hq.div hr
 have sg:∀{x:Rat},bR x=0↔x=0:=by intro x;unfold bR;grind
 refine cB hT nB hm afS rfl br rfl 60 afz (fun _=>?_) K []
 refine⟨⟨show 0<1 by omega,show m<2^44 by omega⟩,fun hb=>⟨show 0<1 by omega,show 0<1 by omega,?_,?_,trivial⟩,fun hb=>⟨show 0<1 by omega,?_⟩⟩
 ·have h0:r=0:=sg.1 (eq_of_beq hb)
  have e:q/r=0:=by rw[h0,Rat.div_def,Rat.inv_zero,Rat.mul_zero]
  obtain⟨k,hk⟩:∃k,n+m=k+1:=⟨n+m-1,by have:=hq.pos;omega⟩
  rw[e,hk];exact pD
 ·have h0:r=0:=sg.1 (eq_of_beq hb)
  exact cu (by rw[if_pos h0])
 have h0:r≠0:=fun h=>by
  rw[h]at hb
  simp[bR]at hb
 have hv:=CR q r h0
 have he:bg (.int .i64 0) (.int .i64 (if r=0 then 3 else 0)):=cu (by rw[if_neg h0])
 have hlong:(af.aj
         [(0:Nat)<1,(0:Nat)<1,(0:Nat)<1,(0:Nat)<1,nl q.num.natAbs<2^40,nl r.den<2^40,(0:Nat)<1,(0:Nat)<1,nl q.den<2^40,nl r.num.natAbs<2^40,nl (q.num.natAbs*r.den)<2^40,nl (q.den*r.num.natAbs)<2^40,(0:Nat)<1]
         (af.aj [(0:Nat)<1]
          (af.leaf au.ret
           [AV.rat (sQ (decide (q<0)!=decide (r<0)) (q.num.natAbs*r.den) (q.den*r.num.natAbs))
             (dQ (sQ (decide (q<0)!=decide (r<0)) (q.num.natAbs*r.den) (q.den*r.num.natAbs))),.int .i64 0]))).all fun _ us=>iW us (.tuple [.rat (q/r) (n+m),.int .i64 (if r=0 then 3 else 0)]):=by
  simp only[af.all,aF]
  exact⟨⟨aa,aa,aa,aa,a1,b2,aa,aa,a2,b1,m1,m2,aa⟩,aa,fO hv hz,he,trivial⟩
 refine⟨fun h1=>⟨show 0<1 by omega,fun h2=>?_,fun h2=>hlong⟩,fun h1=>hlong⟩
 obtain⟨q1,q2⟩:=rD h1
 obtain⟨r1,r2⟩:=rD h2
 obtain⟨wx,bx⟩:=pP q1 r2
 obtain⟨wd,bd⟩:=pP q2 r1
 have hr0:r.num.natAbs≠0:=fun h=>h0 (oS.1 h)
 have hd0:q.den*r.num.natAbs≠0:=Nat.mul_ne_zero d1 hr0
 rw[if_pos h1,if_pos h2,if_pos h1,if_pos h2,wx,wd]
 simp only[af.all,aF,bJ]
 exact⟨⟨aa,aa,aa,aa,aa⟩,aa,fO hv hz,he,trivial⟩
end ops
def Ly:Spec:=cw fun l=>match l with
 |[.int .i64 n]=>some (aT (.rat (n:Rat) (max 1 (bU n.natAbs))) [-2^63<=n,n<2^63])
 |_=>none
theorem UM:bF P Ly 71:=by
 refine cY fun K args r hk hs _=>?_
 split at hs
 ·simp only[aB]at hs
  subst hs
  exact fun need=>Rf need.1 need.2 K trivial
 ·simp at hs
end Go.Am.B
