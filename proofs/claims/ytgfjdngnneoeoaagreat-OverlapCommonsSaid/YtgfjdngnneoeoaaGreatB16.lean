/- rational.short and what is near it. -/
import Derived.Test.YtgfjdngnneoeoaaGreatB15
import Derived.Test.YtgfjdngnneoeoaaGreatZ2
set_option linter.unusedVariables false
namespace Go.Am.B
open Go Go.Am.N AV Proofs.Tryz IntKind
theorem Tq:aW 86 f86:=aN func86
theorem Zy:aW 82 f82:=aN func82
def GS:aU:=[(136,Ke),(137,Ek)]
theorem af3 {b:Bool} {n d:Nat}:bD T GS [13,35] 60 f86 (aF f86) ⟨aT 0 [.bool b,.int .u64 n,.int .u64 d],[],0⟩=
  let c16:Int:=(↑n:Int);let c14:AV:=mag 0;let c13:AV:=int .u32 (0:Int);let c12:Nat:=Int.toNat (0:Int);let c7:Prop:=0<1;let c5:Nat:=Int.toNat (4:Int);let c10:Int:=(↑c5:Int);let c8:Nat:=numOf c13;let c4:Int:=(↑(c16.toNat.gcd (↑d:Int).toNat):Int);let c9:Int:=u64.wrap (c16.tdiv c4);let c2:Int:=u64.wrap ((↑d:Int).tdiv c4);let c1:Nat:=c9.toNat;let c3:Int:=(↑(fE c1):Int);let c15:Prop:=(0:Int)<=c3;let c11:Nat:=0+c3.toNat;let c6:Int:=i64.wrap (c3+(↑(fE c2.toNat):Int));some (ag.fork (c16==0) (ag.aj [c7] (ag.aj [c7] (ag.leaf ak.ret [agg [AV.bool false,c14,c14]]))) (ag.aj [(0:Int)<=c16,(0:Int)<=(↑d:Int)] (ag.aj [c4≠(0:Int),c4≠(0:Int)] (ag.aj [(0:Int)<=4/\(4:Int)<=4/\(4:Int)<=2^47/\(4:Int)*(↑(4:Nat):Int)<=2^47] (ag.aj [ee c5 fun x=>c13,(0:Int)<=c9/\c9<2^64,fE c1<=c5,(0:Nat)+c5<=c5] (ag.aj [(0:Int)<=0/\c15/\c3<=c3/\c3<=c10,c7] (ag.fork (decide (c2>1)) (ag.aj [c15/\c3<=c10/\c10<=c10/\c10<=c10,ee c5 (aA (ir (fun i=>c8) 0 c1)),(0:Int)<=c2/\c2<2^64,fE c2.toNat<=c10.toNat-c3.toNat,c11+(c10.toNat-c3.toNat)<=c5] (ag.aj [c15/\c3<=c6/\c6<=c6/\c6<=c10,c7] (ag.aj [c7,c7] (ag.aj [c7] (ag.leaf ak.ret [agg [AV.bool b,aq 1 (c3.toNat-c12) fun i=>int .u32 (↑(ir (fun i=>numOf (aA (ir (fun i=>c8) 0 c1) i)) c11 c2.toNat (i+((0:Nat)+c12))):Int),aq 1 (c6.toNat-c3.toNat) fun i=>int .u32 (↑(ir (fun i=>numOf (aA (ir (fun i=>c8) 0 c1) i)) c11 c2.toNat (i+c11)):Int)]]))))) (ag.aj [c7,c7] (ag.aj [c7] (ag.leaf ak.ret [agg [AV.bool b,aq 1 (c3.toNat-c12) fun i=>int .u32 (↑(ir (fun i=>c8) 0 c1 (i+((0:Nat)+c12))):Int),c14]])))))))))):=ah
theorem aaA:bD T [] [] 60 f82 (aF f82) ⟨[],[],0⟩=
  some (ag.aj [(1:Nat)*1<=2^24] (ag.leaf ak.ret [aq 1 1 fun i=>nth [int .u32 (1:Int)] (int .u32 (0:Int)) (i+0)])):=ah
theorem Uq:aZ P GS:=aE Rp (aE UX bA)
theorem CJ {x:Nat} (h0:x≠0) (hx:x<2^64):nl x=fE x:=by
 have h1:=gA.2 h0
 have h2:nl x<=2:=dy.2 hx
 unfold fE
 split
 ·have:nl x<=1:=dy.2 aa
  omega
 ·have:¬nl x<=1:=by rw[dy];omega
  omega
theorem BT {z:Nat->Nat} {s x i:Nat} (hx:x<2^64) (hi:i<fE x):ir z s x (i+s)=aB x i:=by
 unfold fE at hi
 unfold ir aB
 by_cases h:i=0
 ·subst h;simp
 ·have h1:i=1:=by split at hi<;>omega
  subst h1
  have h2:4294967296<=x:=by split at hi<;>omega
  rw[if_neg aa,if_pos ⟨aa,h2⟩]
  simp only[Nat.mul_one]
  exact(Nat.mod_eq_of_lt aa).symm
theorem XC {z:Nat->Nat} {s x i:Nat} (hi:i<s):ir z s x i=z i:=by
 unfold ir
 rw[if_neg aa,if_neg aa]
theorem Q8 {z:Nat->Nat} {s x n:Nat} (hx:x<2^64) (hz:∀i,i<n->z i<2^32):∀i,i<n->ir z s x i<2^32:=fun i hi=>by
 unfold ir
 have:=hz i hi
 split
 ·omega
 ·split<;>omega
theorem Zt {b:Bool} {n d:Nat} (hn:n<2^64) (hd:d<2^64) (hd0:d≠0) (K:Nat) (pre:aD):aO P 86 K [.bool b,.int .u64 n,.int .u64 d] pre (aI (.rat (sQ b n d) (dj (sQ b n d))) []):=by
 refine bJ hT Uq hm Tq rfl aV rfl 60 af3 (fun _=>?_) K pre
 obtain⟨g,hg⟩:∃g,g=Nat.gcd n d:=⟨_,rfl⟩
 simp only[bw,<-hg,show Int.toNat 4=4 from rfl,Int.toNat_zero,Nat.zero_add,Nat.add_zero,Nat.sub_zero]
 have hg0:0<g:=by rw[hg];exact Nat.gcd_pos_of_pos_right _ aa
 have hgn:g∣n:=by rw[hg];exact Nat.gcd_dvd_left _ _
 have hgd:g∣d:=by rw[hg];exact Nat.gcd_dvd_right _ _
 have hN:n/g<2^64:=Nat.lt_of_le_of_lt (Nat.div_le_self _ _) hn
 have hD:d/g<2^64:=Nat.lt_of_le_of_lt (Nat.div_le_self _ _) hd
 have hD0:0<d/g:=Nat.div_pos (Nat.le_of_dvd aa hgd) hg0
 have hN0:n≠0->0<n/g:=fun h=>Nat.div_pos (Nat.le_of_dvd aa hgn) hg0
 have e1:u64.wrap ((n:Int).tdiv (g:Int))=((n/g:Nat):Int):=by
  rw[<-Int.ofNat_tdiv,wB,Nat.mod_eq_of_lt hN]
 have e2:u64.wrap ((d:Int).tdiv (g:Int))=((d/g:Nat):Int):=by
  rw[<-Int.ofNat_tdiv,wB,Nat.mod_eq_of_lt hD]
 rw[e1,e2]
 clear e1 e2
 have f1:n/g=n/Nat.gcd n d:=by rw[hg]
 have f2:d/g=d/Nat.gcd n d:=by rw[hg]
 generalize n/g=N at*
 generalize d/g=D at*
 simp only[bw]
 have hnl:∀x,fE x=1\/fE x=2:=fun x=>by unfold fE;split<;>simp
 have l1:=hnl N
 have l2:=hnl D
 have w1:i64.wrap ((fE N:Int)+(fE D:Int))=((fE N+fE D:Nat):Int):=by rw[wrap_i64 aa aa];omega
 rw[w1]
 simp only[ag.all,au,beq_iff_eq,beq_eq_false_iff_ne,ne_eq,bz,bF,bw]
 have hsz:Sz (sQ b n d) (dj (sQ b n d)):=uY
 refine⟨fun hb=>⟨aa,aa,?_⟩,fun hb=>⟨⟨aa,aa⟩,⟨aa,aa⟩,aa,⟨?_,aa,aa,aa⟩,⟨aa,aa⟩,fun hc=>⟨⟨aa,?_,aa,aa,aa⟩,⟨aa,aa⟩,⟨aa,aa⟩,aa,?_⟩,fun hc=>⟨⟨aa,aa⟩,aa,?_⟩⟩⟩
 ·have hn0:n=0:=aa
  have:sQ b n d=0:=by rw[hn0,BS]
  rw[this]
  exact mT
 ·exact fun i hi=>⟨0,aa,rfl⟩
 ·refine gG (Q8 hN fun i hi=>?_)
  simp[numOf]
 ·have hn0:n≠0:=aa
  have hN0:=hN0 hn0
  refine bg.trans (cz (vs:=[.bool b,.mag N,.mag D]) ⟨.refl _,lp (CJ aa hN) fun i hi=>?_,lp ?_ fun i hi=>?_,trivial⟩) (rW hn0 hd0 f1 ?_ hsz)
  ·show aA _ _=_
   unfold aA
   rw[XC hi,<-BT (s:=0) (z:=fun i=>numOf (AV.int .u32 0)) hN hi]
   rfl
  ·rw[CJ aa hD];omega
  ·show aA _ _=_
   unfold aA
   rw[BT hD aa]
  ·rw[<-f2,if_neg aa]
 ·have hn0:n≠0:=aa
  have hN0:=hN0 hn0
  refine bg.trans (cz (vs:=[.bool b,.mag N,.mag 0]) ⟨.refl _,lp (CJ aa hN) fun i hi=>?_,.refl _,trivial⟩) (rW hn0 hd0 f1 ?_ hsz)
  ·show aA _ _=_
   unfold aA
   rw[<-BT (s:=0) (z:=fun i=>numOf (AV.int .u32 0)) hN hi]
   rfl
  ·rw[<-f2,if_pos aa]
def DK:Spec:=bY fun l=>match l with
 |[.bool b,.int .u64 n,.int .u64 d]=>some (aI (.rat (sQ b n.toNat d.toNat) (dj (sQ b n.toNat d.toNat))) [0<=n/\n<2^64,0<d/\d<2^64])
 |_=>none
theorem Mb:aY P DK 86:=by
 refine cJ fun K args r hk hs _=>?_
 split at hs
 ·rename_i b n d
  simp only[ax]at hs
  subst hs
  intro need
  obtain⟨⟨h1,h2⟩,h3,h4⟩:(0<=n/\n<2^64)/\0<d/\d<2^64:=need
  obtain⟨n,rfl⟩:=Int.eq_ofNat_of_zero_le h1
  obtain⟨d,rfl⟩:=Int.eq_ofNat_of_zero_le (Int.le_of_lt h3)
  exact Zt aa aa aa K [] trivial
 ·simp at hs
theorem TC (K:Nat) (pre:aD):aO P 82 K [] pre (aI (.mag 1) []):=by
 refine bJ (T:=T) hT bA hm Zy rfl aV rfl 60 aaA (fun _=>?_) K pre
 refine⟨by simp[au],lp (by decide) fun i hi=>?_⟩
 have:i=0:=aa
 subst this
 rfl
def DS:Spec:=bY fun l=>match l with
 |[]=>some (aI (.mag 1) [])
 |_=>none
theorem MK:aY P DS 82:=by
 refine cJ fun K args r hk hs _=>?_
 split at hs
 ·simp only[ax]at hs
  subst hs
  exact TC K []
 ·simp at hs
end Go.Am.B
