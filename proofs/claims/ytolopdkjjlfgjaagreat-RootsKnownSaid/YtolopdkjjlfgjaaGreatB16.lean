/- rational.short and what is near it. -/
import Derived.Test.YtolopdkjjlfgjaaGreatB15
import Derived.Test.YtolopdkjjlfgjaaGreatZ2
set_option linter.unusedVariables false
namespace Go.Am.B
open Go Go.Am.N AV Proofs.Tryz IntKind
theorem aeE:bC 165 f165:=bD func165
theorem Vo:bC 132 f132:=bD func132
def GS:bG:=[(179,K9),(180,Gs)]
theorem aeK {b:Bool} {n d:Nat}:cy T GS [13,35] 60 f165 (aJ f165) ⟨bf 0 [.bool b,.int .u64 n,.int .u64 d],[],0⟩=
  let c16:Int:=(↑n:Int);let c14:AV:=mag 0;let c13:AV:=int .u32 (0:Int);let c12:Nat:=Int.toNat (0:Int);let c7:Prop:=0<1;let c5:Nat:=Int.toNat (4:Int);let c10:Int:=(↑c5:Int);let c8:Nat:=numOf c13;let c4:Int:=(↑(c16.toNat.gcd (↑d:Int).toNat):Int);let c9:Int:=u64.wrap (c16.tdiv c4);let c2:Int:=u64.wrap ((↑d:Int).tdiv c4);let c1:Nat:=c9.toNat;let c3:Int:=(↑(gL c1):Int);let c15:Prop:=(0:Int)<=c3;let c11:Nat:=0+c3.toNat;let c6:Int:=i64.wrap (c3+(↑(gL c2.toNat):Int));some (af.fork (c16==0) (af.aj [c7] (af.aj [c7] (af.leaf au.ret [agg [AV.bool false,c14,c14]]))) (af.aj [(0:Int)<=c16,(0:Int)<=(↑d:Int)] (af.aj [c4≠(0:Int),c4≠(0:Int)] (af.aj [(0:Int)<=4/\(4:Int)<=4/\(4:Int)<=2^47/\(4:Int)*(↑(4:Nat):Int)<=2^47] (af.aj [fu c5 fun x=>c13,(0:Int)<=c9/\c9<2^64,gL c1<=c5,(0:Nat)+c5<=c5] (af.aj [(0:Int)<=0/\c15/\c3<=c3/\c3<=c10,c7] (af.fork (decide (c2>1)) (af.aj [c15/\c3<=c10/\c10<=c10/\c10<=c10,fu c5 (aD (jr (fun i=>c8) 0 c1)),(0:Int)<=c2/\c2<2^64,gL c2.toNat<=c10.toNat-c3.toNat,c11+(c10.toNat-c3.toNat)<=c5] (af.aj [c15/\c3<=c6/\c6<=c6/\c6<=c10,c7] (af.aj [c7,c7] (af.aj [c7] (af.leaf au.ret [agg [AV.bool b,az 1 (c3.toNat-c12) fun i=>int .u32 (↑(jr (fun i=>numOf (aD (jr (fun i=>c8) 0 c1) i)) c11 c2.toNat (i+((0:Nat)+c12))):Int),az 1 (c6.toNat-c3.toNat) fun i=>int .u32 (↑(jr (fun i=>numOf (aD (jr (fun i=>c8) 0 c1) i)) c11 c2.toNat (i+c11)):Int)]]))))) (af.aj [c7,c7] (af.aj [c7] (af.leaf au.ret [agg [AV.bool b,az 1 (c3.toNat-c12) fun i=>int .u32 (↑(jr (fun i=>c8) 0 c1 (i+((0:Nat)+c12))):Int),c14]])))))))))):=ah
theorem Ux:cy T [] [] 60 f132 (aJ f132) ⟨[],[],0⟩=
  some (af.aj [(1:Nat)*1<=2^24] (af.leaf au.ret [az 1 1 fun i=>nth [int .u32 (1:Int)] (int .u32 (0:Int)) (i+0)])):=ah
theorem VF:cm P GS:=aM aan (aM T5 cK)
theorem CT {x:Nat} (h0:x≠0) (hx:x<2^64):nl x=gL x:=by
 have h1:=iO.2 h0
 have h2:nl x<=2:=eo.2 hx
 unfold gL
 split
 ·have:nl x<=1:=eo.2 aa
  omega
 ·have:¬nl x<=1:=by rw[eo];omega
  omega
theorem EX {z:Nat->Nat} {s x i:Nat} (hx:x<2^64) (hi:i<gL x):jr z s x (i+s)=aE x i:=by
 unfold gL at hi
 unfold jr aE
 by_cases h:i=0
 ·subst h;simp
 ·have h1:i=1:=by split at hi<;>omega
  subst h1
  have h2:4294967296<=x:=by split at hi<;>omega
  rw[if_neg aa,if_pos ⟨aa,h2⟩]
  simp only[Nat.mul_one]
  exact(Nat.mod_eq_of_lt aa).symm
theorem ZB {z:Nat->Nat} {s x i:Nat} (hi:i<s):jr z s x i=z i:=by
 unfold jr
 rw[if_neg aa,if_neg aa]
theorem PL {z:Nat->Nat} {s x n:Nat} (hx:x<2^64) (hz:∀i,i<n->z i<2^32):∀i,i<n->jr z s x i<2^32:=fun i hi=>by
 unfold jr
 have:=hz i hi
 split
 ·omega
 ·split<;>omega
theorem abf {b:Bool} {n d:Nat} (hn:n<2^64) (hd:d<2^64) (hd0:d≠0) (K:Nat) (pre:aG):aY P 165 K [.bool b,.int .u64 n,.int .u64 d] pre (aT (.rat (sQ b n d) (dQ (sQ b n d))) []):=by
 refine cB hT VF hm aeE rfl br rfl 60 aeK (fun _=>?_) K pre
 obtain⟨g,hg⟩:∃g,g=Nat.gcd n d:=⟨_,rfl⟩
 simp only[bJ,<-hg,show Int.toNat 4=4 from rfl,Int.toNat_zero,Nat.zero_add,Nat.add_zero,Nat.sub_zero]
 have hg0:0<g:=by rw[hg];exact Nat.gcd_pos_of_pos_right _ aa
 have hgn:g∣n:=by rw[hg];exact Nat.gcd_dvd_left _ _
 have hgd:g∣d:=by rw[hg];exact Nat.gcd_dvd_right _ _
 have hN:n/g<2^64:=Nat.lt_of_le_of_lt (Nat.div_le_self _ _) hn
 have hD:d/g<2^64:=Nat.lt_of_le_of_lt (Nat.div_le_self _ _) hd
 have hD0:0<d/g:=Nat.div_pos (Nat.le_of_dvd aa hgd) hg0
 have hN0:n≠0->0<n/g:=fun h=>Nat.div_pos (Nat.le_of_dvd aa hgn) hg0
 have e1:u64.wrap ((n:Int).tdiv (g:Int))=((n/g:Nat):Int):=by
  rw[<-Int.ofNat_tdiv,zQ,Nat.mod_eq_of_lt hN]
 have e2:u64.wrap ((d:Int).tdiv (g:Int))=((d/g:Nat):Int):=by
  rw[<-Int.ofNat_tdiv,zQ,Nat.mod_eq_of_lt hD]
 rw[e1,e2]
 clear e1 e2
 have f1:n/g=n/Nat.gcd n d:=by rw[hg]
 have f2:d/g=d/Nat.gcd n d:=by rw[hg]
 generalize n/g=N at*
 generalize d/g=D at*
 simp only[bJ]
 have hnl:∀x,gL x=1\/gL x=2:=fun x=>by unfold gL;split<;>simp
 have l1:=hnl N
 have l2:=hnl D
 have w1:i64.wrap ((gL N:Int)+(gL D:Int))=((gL N+gL D:Nat):Int):=by rw[wrap_i64 aa aa];omega
 rw[w1]
 simp only[af.all,aF,beq_iff_eq,beq_eq_false_iff_ne,ne_eq,bI,bO,bJ]
 have hsz:Sz (sQ b n d) (dQ (sQ b n d)):=zM
 refine⟨fun hb=>⟨aa,aa,?_⟩,fun hb=>⟨⟨aa,aa⟩,⟨aa,aa⟩,aa,⟨?_,aa,aa,aa⟩,⟨aa,aa⟩,fun hc=>⟨⟨aa,?_,aa,aa,aa⟩,⟨aa,aa⟩,⟨aa,aa⟩,aa,?_⟩,fun hc=>⟨⟨aa,aa⟩,aa,?_⟩⟩⟩
 ·have hn0:n=0:=aa
  have:sQ b n d=0:=by rw[hn0,D8]
  rw[this]
  exact pD
 ·exact fun i hi=>⟨0,aa,rfl⟩
 ·refine iJ (PL hN fun i hi=>?_)
  simp[numOf]
 ·have hn0:n≠0:=aa
  have hN0:=hN0 hn0
  refine bg.trans (mY (vs:=[.bool b,.mag N,.mag D]) ⟨.refl _,l8 (CT aa hN) fun i hi=>?_,l8 ?_ fun i hi=>?_,trivial⟩) (wm hn0 hd0 f1 ?_ hsz)
  ·show aD _ _=_
   unfold aD
   rw[ZB hi,<-EX (s:=0) (z:=fun i=>numOf (AV.int .u32 0)) hN hi]
   rfl
  ·rw[CT aa hD];omega
  ·show aD _ _=_
   unfold aD
   rw[EX hD aa]
  ·rw[<-f2,if_neg aa]
 ·have hn0:n≠0:=aa
  have hN0:=hN0 hn0
  refine bg.trans (mY (vs:=[.bool b,.mag N,.mag 0]) ⟨.refl _,l8 (CT aa hN) fun i hi=>?_,.refl _,trivial⟩) (wm hn0 hd0 f1 ?_ hsz)
  ·show aD _ _=_
   unfold aD
   rw[<-EX (s:=0) (z:=fun i=>numOf (AV.int .u32 0)) hN hi]
   rfl
  ·rw[<-f2,if_pos aa]
def C1:Spec:=cw fun l=>match l with
 |[.bool b,.int .u64 n,.int .u64 d]=>some (aT (.rat (sQ b n.toNat d.toNat) (dQ (sQ b n.toNat d.toNat))) [0<=n/\n<2^64,0<d/\d<2^64])
 |_=>none
theorem J3:bF P C1 165:=by
 refine cY fun K args r hk hs _=>?_
 split at hs
 ·rename_i b n d
  simp only[aB]at hs
  subst hs
  intro need
  obtain⟨⟨h1,h2⟩,h3,h4⟩:(0<=n/\n<2^64)/\0<d/\d<2^64:=need
  obtain⟨n,rfl⟩:=Int.eq_ofNat_of_zero_le h1
  obtain⟨d,rfl⟩:=Int.eq_ofNat_of_zero_le (Int.le_of_lt h3)
  exact abf aa aa aa K [] trivial
 ·simp at hs
theorem XH (K:Nat) (pre:aG):aY P 132 K [] pre (aT (.mag 1) []):=by
 refine cB (T:=T) hT cK hm Vo rfl br rfl 60 Ux (fun _=>?_) K pre
 refine⟨by simp[aF],l8 (by decide) fun i hi=>?_⟩
 have:i=0:=aa
 subst this
 rfl
def D9:Spec:=cw fun l=>match l with
 |[]=>some (aT (.mag 1) [])
 |_=>none
theorem K5:bF P D9 132:=by
 refine cY fun K args r hk hs _=>?_
 split at hs
 ·simp only[aB]at hs
  subst hs
  exact XH K []
 ·simp at hs
end Go.Am.B
